/- What the law leans on, part 10: W09n, W09o, W09p, W09q, W09r, P09s, ErrN, W08y, AmN, W09s, W09t, P19, Hx, P11, P11b, W23, W23b, W23c, W23d, W23e -/
import Derived.Test.YtghminnpfnkbjaaGreatDoorM9RequestRead

set_option maxRecDepth 100000
set_option maxHeartbeats 8000000
namespace Go.Proofs.YtghminnpfnkbjaaGreatDoor
set_option linter.unusedVariables false
namespace Am
open Go.RowKit
section
variable {gs:List Nat} [dK gs]

def sX (l:YD):CV:=.rs 1 l.length fun i _=>an (l.getD i [])
def kh (s:S3):CV:=.agg 3 (fl [.c (.int .i64 s.1),an s.2.1,an s.2.2])
def wF (j:Nat):CV:=an (ox.getD j [])
theorem SM (j:Nat) (hj:j<5):aa (fl [an [110,111,100,101],an [119,111,114,107,108,111,97,100],an [111,112,101,114,97,116,111,114],an [98,111,111,116],an [99,97]] j) (wF j):=by
 rcases j with _|_|_|_|_|j <;> first|exact I|omega
theorem B3 {gs:List Nat}:cc gs Tryz.prog 155 [] (sX ox):=by
 refine aj 2 Tryz.func155 fun al w0 F0 St0=>?_;refine U 6516 ?_
 refine au (aY 5 1 Eg fun p1=>?_)
 refine U 51 ?_;refine jE (eE 0 (m:=5) (F:=wF) rfl jD (fun _=>rfl) (fun j hj=>SM j hj)) ?_;refine jE (freeze 0 rfl) ?_;refine jE (kg 0 (fun a _=>an (ox.getD a [])) rfl rfl jD (fun a b ha hb=>aa.of_eq (by rw [show 0+(a * 1+b)=a by omega];rfl))) ?_
 refine jR (eA (hv:=I))
theorem F3 {gs:List Nat} (k:Int):cc gs Tryz.prog 112 [.c (.int .i64 k)] (an (fI k)):=by
 refine aj 14 Tryz.func112 fun al w0 F0 St0=>?_;refine U 12167516 ?_;refine aK 5 (fun g13=>?_) fun g13=>?_
 ·refine U 8000300070005169000510000000044 ?_;refine aa.strL ?_
  unfold fI
  by_cases h:k<1
  ·rw [YF h]
  ·rw [YE h,YH,Y6 (by show 5≤_;omega)];rfl
 refine U 550021 ?_;refine ap (fun h13=>?_) fun h13=>?_
 ·refine U 800030007000516 ?_;refine aa.strL ?_
  unfold fI
  by_cases h:k<1
  ·rw [YF h]
  ·rw [YE h,YH,Y6 (by show 5≤_;omega)];rfl
 refine U 6810 ?_
 refine au (aY 5 1 Eg fun p1=>?_)
 refine U 91 ?_;refine aI (eE 0 (m:=5) (F:=wF) rfl jD (fun _=>rfl) (fun j hj=>SM j hj)) ?_;refine jq (dU (i:=(k-1).toNat) (hz:=by omega)) ?_;refine U 800070005150 ?_;refine aa.strL ?_
 unfold fI
 rw [jK]
def NQ (l:YD) (x:Z):Int:=if x ∈ l then (l.idxOf x:Nat) else -1
theorem Jy {gs:List Nat} (l:YD) (x:Z):cc gs Tryz.prog 171 [sX l,an x] (.c (.int .i64 (NQ l x))):=by
 refine fC 0 rfl fun hlen=>?_;refine aj 19 Tryz.func171 fun al w0 F0 St0=>?_;refine U 20513167516 ?_;refine ax (α:=Nat) [4,5,8,9,10,11,12,13,14,15,16,17,18] (fun i=>[(8,.c (.int .i64 (i:Nat)))]) (fun _=>[]) (fun i=>i≤l.length∧x ∉ l.take i) (fun i=>l.length-i) (0) ?_ (fun _=>rfl) ?_ ?_ ?_
 ·exact ⟨by omega,by simp⟩
 ·(repeat (first|exact bz.nil|refine bz.cons I ?_))
 ·(repeat (exact aP.nil))
 ·rintro i ⟨hi,he⟩
  refine U 7526 ?_;refine ap (fun h97=>?_) fun h97=>?_
  rotate_left
  ·refine U 8000700051684000200020006000 ?_;refine cI ?_
   have:l.take i=l:=Y0 O
   rw [this] at he
   unfold NQ
   rw [YE he]
  refine U 5600006070011165116207810 ?_;refine ap (fun h98=>?_) fun h98=>?_
  ·refine U 80003000500030003000500070005116 ?_;refine cI ?_
   have hlt:i<l.length:=by omega
   have e:l.getD i []=l[i]:=by simp [List.getD,hlt]
   have hm:x ∈ l:=by rw [h98,e];exact ZS hlt
   have hx:l.idxOf x=i:=by
    have e2:l=l.take i++l[i]::l.drop (i+1):=by rw [← Y5 hlt,Zu]
    rw [e2,List.idxOf_append,YE he,h98,e]
    rw [← Y5 hlt,Y5 hlt,bVx,YS]
    omega
   unfold NQ
   rw [YF hm,hx]
  refine U 8519200840010 ?_;refine aw (i+1) ?_ ?_
  ·exact ⟨by omega,fun hm=>by
    rw [YO O] at hm
    rcases akx.1 hm with h|h
    ·exact he h
    ·have e:l.getD i []=l[i]:=by simp [List.getD,show i<l.length by omega]
     simp at h
     rw [e] at h98
     exact h98 h⟩
  ·omega
theorem JA (x:Z):NQ ox x+1=tH x:=by unfold NQ tH;split <;> simp
theorem zg {gs:List Nat} (s:S3):cc gs Tryz.prog 50 [kh s] (.c (.bool (bW s))):=by
 refine aj 26 Tryz.func50 fun al w0 F0 St0=>?_;refine dP ?_
 refine au (ff 3 fun p1=>?_)
 refine U 1250906751 ?_;refine aK 6 (fun g27=>?_) fun g27=>?_
 ·refine U 8000300070005169000510000000044441100000000444 ?_;refine cB ?_
  unfold bW
  (simp_all;omega)
 refine U 150025090 ?_;refine aK 11 (fun g27_2=>?_) fun g27_2=>?_
 ·refine U 800030007000516900051000000004444 ?_;refine cB ?_
  unfold bW
  (simp_all;omega)
 refine U 501000 ?_
 refine au (ar (wY s.2.2) ?_)
 refine U 550030 ?_;refine ap (fun h27=>?_) fun h27=>?_
 ·refine U 800030007000516 ?_;refine cB ?_
  unfold bW
  (simp_all;done)
 refine U 52509067810 ?_;refine ap (fun h30=>?_) fun h30=>?_
 ·refine U 501006 ?_
  refine au (ar (wY s.2.1) ?_)
  refine U 80003000700051 ?_;refine cB ?_
  unfold bW
  (simp_all;done)
 refine U 800070005160000501006810 ?_;refine cB ?_
 unfold bW
 (simp_all;done)
theorem yN {gs:List Nat} (s:S3):cc gs Tryz.prog 52 [kh s] (.c (.bool (bW s))):=by
 have hw:fI s.1=[]↔¬ (1≤s.1∧s.1≤5):=yw s.1
 refine aj 22 Tryz.func52 fun al w0 F0 St0=>?_;refine dP ?_
 refine au (ff 3 fun p1=>?_)
 refine U 50906751 ?_
 refine au (ar (F3 s.1) ?_)
 refine U 160000 ?_;refine aK 7 (fun g21=>?_) fun g21=>?_
 ·refine U 800030007000516900051000000004444 ?_;refine cB ?_
  unfold bW
  (simp_all;omega)
 refine U 501000 ?_
 refine au (ar (tc s.2.2) ?_)
 refine U 550030 ?_;refine ap (fun h21=>?_) fun h21=>?_
 ·refine U 800030007000516 ?_;refine cB ?_
  unfold bW
  (simp_all;done)
 refine U 52509067810 ?_;refine ap (fun h24=>?_) fun h24=>?_
 ·refine U 501006 ?_
  refine au (ar (tc s.2.1) ?_)
  refine U 80003000700051 ?_;refine cB ?_
  unfold bW
  (simp_all;done)
 refine U 800070005160000501006810 ?_;refine cB ?_
 unfold bW
 (simp_all;done)

theorem GI {l:Z} (h:kA l=true):l.length≤24:=(nc.1 h).2.1
theorem Kx (k:Int):(fI k).length≤8:=by
 by_cases h:1≤k∧k≤5
 ·rcases kinds h.1 h.2 with rfl|rfl|rfl|rfl|rfl <;> decide
 ·rw [(yw k).2 h];simp
theorem Kz {k:Int} (h1:1≤k) (h5:k≤5):ox.getD (k-1).toNat []=fI k:=by unfold fI;rw [jK]
theorem Qr {s:S3} (h:bW s=true):1≤s.1∧s.1≤5∧s.2.2.length≤24∧s.2.1.length≤24:=by
 obtain ⟨h1,h5,hn,h2,hs⟩:=(ln s).1 h
 refine ⟨h1,h5,GI hn,?_⟩
 by_cases hk:s.1=2
 ·exact GI (h2 hk)
 ·rw [hs hk];simp
theorem aa.rsL {k n m:Nat} {f g:Nat→Nat→CV} (h:n=m) (hf:f=g):aa (.rs k n f) (.rs k m g):=by subst h hf;exact I
def fX (p:P2) (j:Nat):CV:=if j=0 then an p.1 else an p.2
def Mj:List P2→Nat→CV:=fV 2 fX ([],[])
def je (l:List P2):CV:=.rs 2 l.length fun i j=>fX (l.getD i ([],[])) j
theorem za (p:P2) (j:Nat) (hj:j<2):aa (fl [an p.1,an p.2] j) (Mj [p] j):=by
 rcases j with _|_|j <;> first|exact I|omega
theorem zh (s:S3):cc gs Tryz.prog 95 [kh s] (.tup 2 (fl [je (if bW s=true then bX s else []),.err (if bW s=true then 0 else 9)])):=by
 have hwl:=Kx s.1
 refine aj 32 Tryz.func95 fun al w0 F0 St0=>?_;refine dP ?_
 refine au (ff 3 fun p1=>?_)
 refine U 67511 ?_;refine gw (bq 3) ?_
 refine au (ar (zg s) ?_)
 refine U 530 ?_;refine ap (fun h38=>?_) fun h38=>?_
 ·refine gY ?_;refine dY (.rd 0 (.rd 1 (.rd 2 .done))) ?_;refine aM (cK 8) ?_;refine U 8000300070008807070 ?_
  have hr:bW s=false:=by simpa using h38
  exact cT (aa.nilS' (by rw [YE (by simp [hr])];rfl)) (aa.errN (by rw [YE (by simp [hr])]))
 refine U 7810 ?_
 have hr:bW s=true:=by simpa using h38
 obtain ⟨k1,k5,n1,n2⟩:=Qr hr
 have hg:=Kz k1 k5
 refine dY (.rd 1 (.rd 2 (.rd 3 (.one 0 (.rd 4 (.rd 5 (.rd 6 (.one 7 (.rd 8 .done))))))))) ?_;refine U 900000 ?_;refine w8 (gm (hn:=by omega)) ?_;refine aM (Nu (hS:=by show _∧_;omega)) ?_
 refine ir (ar B3 ?_)
 refine aM (dU (i:=(s.1-1).toNat) (hz:=by omega) (hS:=by (show _<(5:Nat);omega))) ?_;refine aM (kC (hn:=by omega)) ?_;refine aM (ai (n:=2) rfl ec qL rfl rfl) ?_
 refine ir (aY 2 2 ec fun p2=>?_)
 refine U 788070 ?_;refine jE (eE 1 (m:=2) (F:=Mj [(nO,fI s.1)]) rfl jD (fun _=>rfl) (fun j hj=>by rw [← hg];exact za (nO,_) j hj)) ?_;refine U 560000501006 ?_;refine ap (fun h42=>?_) fun h42=>?_
 rotate_left
 ·refine U 50100016810 ?_;refine jq (ai (n:=2) rfl ec qL rfl rfl) ?_
  refine au (aY 2 2 ec fun p3=>?_)
  refine aq (aF (fW 2 fX ([],[])) (l2:=[(nN,s.2.2)]) rfl rfl rfl rfl (by exact YG _) (fun _ _=>I) (aW rfl (.inl rfl) jD) rfl (fun j hj=>by rcases j with _|_|j <;> first|exact I|(exfalso;simp at hj <;> omega)) Tryz.underlying152 uy uk ec uJ rfl (by (simp;done)) (by (simp;done)) (bC rfl rfl) rfl rfl rfl (fun p4=>?_))
  refine U 511 ?_;refine jE (freeze 1 rfl) ?_;refine jE (kg 2 (fun i j=>fX ((bX s).getD i ([],[])) j) rfl rfl (by exact YG _) (fun a b ha hb=>aa.of_eq (by rw [Nat.zero_add];refine (iy (k:=2) hb).trans ?_;unfold bX;(rw [YF (by simpa using h42)];rfl)))) ?_;refine U 80007000 ?_
  refine cT (aa.rsL ?_ ?_) (aa.nilE (by rw [YF hr]))
  ·rw [YF hr];unfold bX;(rw [YF (by simpa using h42)];rfl)
  ·rw [YF hr]
 refine U 501001200 ?_;refine jq (ai (n:=2) rfl ec qL rfl rfl) ?_
 refine au (aY 2 2 ec fun p3=>?_)
 refine aq (aF (fW 2 fX ([],[])) (l2:=[(rm,s.2.1)]) rfl rfl rfl rfl (by exact YG _) (fun _ _=>I) (aW rfl (.inl rfl) jD) rfl (fun j hj=>by rcases j with _|_|j <;> first|exact I|(exfalso;simp at hj <;> omega)) Tryz.underlying152 uy uk ec uJ rfl (by (simp;done)) (by (simp;done)) (bC rfl rfl) rfl rfl rfl (fun p4=>?_))
 refine U 50100016851 ?_;refine jq (ai (n:=2) rfl ec qL rfl rfl) ?_
 refine au (aY 2 2 ec fun p5=>?_)
 refine aq (aF (fW 2 fX ([],[])) (l2:=[(nN,s.2.2)]) rfl rfl rfl rfl (by exact YG _) (fun _ _=>I) (aW rfl (.inl rfl) jD) rfl (fun j hj=>by rcases j with _|_|j <;> first|exact I|(exfalso;simp at hj <;> omega)) Tryz.underlying152 uy uk ec uJ rfl (by (simp;done)) (by (simp;done)) (bC rfl rfl) rfl rfl rfl (fun p6=>?_))
 refine U 511 ?_;refine jE (freeze 1 rfl) ?_;refine jE (kg 2 (fun i j=>fX ((bX s).getD i ([],[])) j) rfl rfl (by exact YG _) (fun a b ha hb=>aa.of_eq (by rw [Nat.zero_add];refine (iy (k:=2) hb).trans ?_;unfold bX;(rw [YE h42];rfl)))) ?_;refine U 80007000 ?_
 refine cT (aa.rsL ?_ ?_) (aa.nilE (by rw [YF hr]))
 ·rw [YF hr];unfold bX;(rw [YE h42];rfl)
 ·rw [YF hr]
theorem Ii {gs:List Nat} (s:S3) (hr:bW s=true):cc gs Tryz.prog 139 [kh s] (je (bX s)):=by
 have hp:=y7 hr
 refine aj 24 Tryz.func139 fun al w0 F0 St0=>?_;refine dP ?_
 refine au (ff 3 fun p1=>?_)
 refine U 5090651 ?_
 refine au (ar (F3 s.1) ?_)
 refine jq (ai (n:=2) rfl ec qL rfl rfl) ?_
 refine au (aY 2 2 ec fun p2=>?_)
 refine U 751 ?_;refine jE (eE 1 (m:=2) (F:=Mj [(nO,fI s.1)]) rfl jD (fun _=>rfl) (fun j hj=>za (nO,_) j hj)) ?_;refine U 5250906 ?_;refine ap (fun h33=>?_) fun h33=>?_
 rotate_left
 ·refine U 50100016810 ?_;refine jq (ai (n:=2) rfl ec qL rfl rfl) ?_
  refine au (aY 2 2 ec fun p3=>?_)
  refine aq (aF (fW 2 fX ([],[])) (l2:=[(nN,s.2.2)]) rfl rfl rfl rfl (by exact YG _) (fun _ _=>I) (aW rfl (.inl rfl) jD) rfl (fun j hj=>by rcases j with _|_|j <;> first|exact I|(exfalso;simp at hj <;> omega)) Tryz.underlying152 uy uk ec uJ rfl (by (simp;done)) (by (simp;done)) (bC rfl rfl) rfl rfl rfl (fun p4=>?_))
  refine U 51 ?_;refine jE (freeze 1 rfl) ?_;refine jE (kg 2 (fun i j=>fX ((bX s).getD i ([],[])) j) rfl rfl (by exact YG _) (fun a b ha hb=>aa.of_eq (by rw [Nat.zero_add];refine (iy (k:=2) hb).trans ?_;rw [hp];(rw [YE h33];rfl)))) ?_;refine U 80007000 ?_
  refine aa.rsL ?_ rfl
  rw [hp];(rw [YE h33];rfl)
 refine U 501001200 ?_;refine jq (ai (n:=2) rfl ec qL rfl rfl) ?_
 refine au (aY 2 2 ec fun p3=>?_)
 refine aq (aF (fW 2 fX ([],[])) (l2:=[(rm,s.2.1)]) rfl rfl rfl rfl (by exact YG _) (fun _ _=>I) (aW rfl (.inl rfl) jD) rfl (fun j hj=>by rcases j with _|_|j <;> first|exact I|(exfalso;simp at hj <;> omega)) Tryz.underlying152 uy uk ec uJ rfl (by (simp;done)) (by (simp;done)) (bC rfl rfl) rfl rfl rfl (fun p4=>?_))
 refine U 50100016851 ?_;refine jq (ai (n:=2) rfl ec qL rfl rfl) ?_
 refine au (aY 2 2 ec fun p5=>?_)
 refine aq (aF (fW 2 fX ([],[])) (l2:=[(nN,s.2.2)]) rfl rfl rfl rfl (by exact YG _) (fun _ _=>I) (aW rfl (.inl rfl) jD) rfl (fun j hj=>by rcases j with _|_|j <;> first|exact I|(exfalso;simp at hj <;> omega)) Tryz.underlying152 uy uk ec uJ rfl (by (simp;done)) (by (simp;done)) (bC rfl rfl) rfl rfl rfl (fun p6=>?_))
 refine U 51 ?_;refine jE (freeze 1 rfl) ?_;refine jE (kg 2 (fun i j=>fX ((bX s).getD i ([],[])) j) rfl rfl (by exact YG _) (fun a b ha hb=>aa.of_eq (by rw [Nat.zero_add];refine (iy (k:=2) hb).trans ?_;rw [hp];(rw [YF h33];rfl)))) ?_;refine U 80007000 ?_
 refine aa.rsL ?_ rfl
 rw [hp];(rw [YF h33];rfl)
theorem sa {l:List P2} {i:Nat} (h:i<l.length):l.getD i ([],[])=l[i]:=by simp [List.getD,h]
theorem JX {gs:List Nat} (l r:List P2):cc gs Tryz.prog 172 [je l,je r] (.c (.bool (decide (l=r)))):=by
 refine fC 0 rfl fun hlen=>?_;refine aj 26 Tryz.func172 fun al w0 F0 St0=>?_;refine U 52313167516 ?_;refine ap (fun h21=>?_) fun h21=>?_
 ·refine U 800030007000516 ?_;refine cB ?_
  refine (Zl fun h=>?_).symm
  rw [h] at h21;omega
 refine U 20513167810 ?_;refine ax (α:=Nat) [4,5,13,14,15,16,17,18,19,20,21,22,23,24,25] (fun i=>[(13,.c (.int .i64 (i:Nat)))]) (fun _=>[]) (fun i=>i≤l.length∧l.take i=r.take i) (fun i=>l.length-i) (0) ?_ (fun _=>rfl) ?_ ?_ ?_
 ·exact ⟨by omega,by simp⟩
 ·(repeat (first|exact bz.nil|refine bz.cons I ?_))
 ·(repeat (exact aP.nil))
 ·rintro i ⟨hi,he⟩
  refine U 7526 ?_;refine ap (fun h24=>?_) fun h24=>?_
  rotate_left
  ·refine U 8000700051684000200020006000 ?_;refine cB ?_
   refine (Zj ?_).symm
   have e1:l.take i=l:=Y0 O
   have e2:r.take i=r:=Y0 O
   rw [← e1,he,e2]
  refine U 75116207810 ?_;refine dY (.rd 0 (.rd 1 (.rd 2 (.rd 3 (.rd 4 (.rd 5 (.rd 6 (.rd 7 (.rd 8 .done))))))))) ?_;refine U 900007070 ?_;refine aM (mn 2) ?_;refine U 900007070 ?_;refine aM (mn 2) ?_;refine aM (LU rfl rfl rfl Tryz.underlying158 (by kernel_rfl) (by kernel_rfl) (.str Tryz.underlying9 jD rfl rfl (.str Tryz.underlying9 jD rfl rfl .nil)) rfl) ?_;refine U 880 ?_;refine ap (fun h25=>?_) fun h25=>?_
  ·refine U 8000300050003000300050007000516 ?_;refine cB ?_
   refine (Zl fun h=>h25 ?_).symm
   rw [h];simp
  refine U 8519200840010 ?_;refine aw (i+1) ?_ ?_
  ·refine ⟨by omega,?_⟩
   rw [YO (show i<l.length by omega),YO (show i<r.length by omega),he,← sa,← sa]
   have h25':(l.getD i ([],[]))=(r.getD i ([],[])):=by
    have:=Z4 h25
    exact blx (uc.1 this.1) (uc.1 this.2.1)
   rw [h25']
  ·omega

def sF (s:S3):Nat→CV:=fl [.c (.int .i64 s.1),an s.2.1,an s.2.2]
theorem Qh (s:S3) (x:Int) (j:Nat) (hj:j<3):aa (gT (sF s) 0 [.c (.int .i64 x)] j) (sF (x,s.2.1,s.2.2) j):=by
 rcases j with _|_|_|j <;> exact I
theorem Qf (s:S3) (x:Z) (j:Nat) (hj:j<3):aa (gT (sF s) 1 [an x] j) (sF (s.1,x,s.2.2) j):=by
 rcases j with _|_|_|j <;> exact I
theorem Qg (s:S3) (x:Z) (j:Nat) (hj:j<3):aa (gT (sF s) 2 [an x] j) (sF (s.1,s.2.1,x) j):=by
 rcases j with _|_|_|j <;> exact I
theorem nW {l:List P2} {i:Nat} (h:i<l.length):fg (l.take (i+1))=ul (fg (l.take i)) (l.getD i ([],[])):=by
 unfold fg
 rw [YO h,bCx,sa h]
 rfl
theorem Uy (l:List P2) (hl:l.length≤1000000):cc gs Tryz.prog 120 [je l] (.tup 2 (fl [kh (lr l).1,.err (lr l).2])):=by
 refine aj 52 Tryz.func120 fun al w0 F0 St0=>?_;refine dP ?_
 refine au (cl (n:=3) oR rfl fun p1=>?_)
 refine U 651 ?_
 refine au (cl (n:=3) oR rfl fun p2=>?_)
 refine U 205131675 ?_;refine ax (α:=Nat) [6,11,12,13,14,15,16,17,18,19,20,21,22,23,24,25,26,27,28,29,30,31,32,33,34,35] (fun i=>[(11,.c (.int .i64 (i:Nat)))]) (fun i=>[(p1,.blk 3 fun _=>.top),(p2,.blk 3 (sF (fg (l.take i))))]) (fun i=>i≤l.length) (fun i=>l.length-i) (0) ?_ (fun _=>rfl) ?_ ?_ ?_
 ·exact YT _
 ·exact .cons I .nil
 ·exact .blk rfl (fun _ _=>aa.top _) (.blk rfl oB .nil)
 ·rintro i (hi:i≤l.length)
  refine U 7526 ?_;refine ap (fun h51=>?_) fun h51=>?_
  rotate_left
  ·refine U 84000200020006000 ?_
   have ei:l.take i=l:=Y0 O
   rw [ei]
   refine dP ?_;refine gw (bq 3) ?_
   refine au (ar (zh (fg l)) ?_)
   refine U 15000001675119009001 ?_;refine aK 43 (fun g62=>?_) fun g62=>?_
   ·refine U 7900051000000004444 ?_;refine lL (.rd 0 (.rd 1 (.one 2 (.rd 3 .done)))) ?_;refine iX (ai (n:=3) rfl oR CJ rfl rfl) ?_;refine iX (cK 8) ?_
    refine lK (aA 3 ?_)
    refine U 8700000400000 ?_
    refine jR (kq (eA (hres:=bB rfl (bD 3) bJ) (hv:=?_)))
    have hp:lr l=(dw,9):=by
     unfold lr
     refine YE fun hh=>?_
     simp_all
    rw [hp];exact cT (aa.agg3 I I I) I
   refine U 11 ?_
   refine au (ar (JX (if bW (fg l)=true then bX (fg l) else []) l) ?_)
   refine U 550030 ?_;refine ap (fun h62=>?_) fun h62=>?_
   ·refine gY ?_;refine lL (.rd 0 (.rd 1 (.one 2 (.rd 3 .done)))) ?_;refine iX (ai (n:=3) rfl oR CJ rfl rfl) ?_;refine iX (cK 8) ?_
    refine lK (aA 3 ?_)
    refine U 8700000400000 ?_
    refine jR (kq (eA (hres:=bB rfl (bD 3) bJ) (hv:=?_)))
    have hp:lr l=(dw,9):=by
     unfold lr
     refine YE fun hh=>?_
     simp_all
    rw [hp];exact cT (aa.agg3 I I I) I
   refine U 6810 ?_;refine gw (bq 3) ?_
   refine aq (aA 3 ?_)
   refine U 51 ?_
   refine jR (eA (hres:=bB rfl (bD 3) bJ) (hv:=?_))
   have hr:bW (fg l)=true:=by
    cases hb:bW (fg l) with
    | true=>rfl
    | false=>simp_all
   have ht:bX (fg l)=l:=by simp_all
   have hp:lr l=(fg l,0):=by unfold lr;rw [YF ⟨hr,ht⟩]
   rw [hp]
   exact cT (aa.agg3 I I I) aa.nil
  refine U 7006207810 ?_;refine jq (mn 2) ?_
  refine au (cl (n:=2) ec rfl fun p3=>?_)
  refine aq (aA 2 ?_)
  refine U 51600006205509065 ?_;refine ap (fun h53=>?_) fun h53=>?_
  ·refine lM 6 (.rd 1 (.rd 2 (.one 0 (.one 3 (.rd 4 (.rd 5 .done)))))) ?_;refine U 100008000000 ?_
   refine ir (ar B3 ?_)
   refine ir (ar (Jy ox (l.getD i ([],[])).2) ?_)
   refine aM (AY rfl rfl rfl ((tH (l.getD i ([],[])).2)) ((by rw [JA];exact cC (k:=.i64) (by show _∧_;have:=RL (l.getD i ([],[])).2;omega)))) ?_;refine U 80900000 ?_
   show cJ _ _ _ _ _ _
   refine aq (aA 1 ?_)
   refine U 851920084004005 ?_
   refine aw (i+1) ?_ ?_ (h5:=?_) (h7:=?_)
   ·show i+1≤l.length;omega
   ·show l.length-(i+1)<l.length-i;omega
   ·exact .cons (cI O) .nil
   ·have ht:=nW (l:=l) (i:=i) O
    unfold ul at ht
    rw [show nO=[49,46,51,46,57,57,57,57,46,49,46,49] from rfl,show rm=[49,46,51,46,57,57,57,57,46,49,46,50] from rfl,show nN=[49,46,51,46,57,57,57,57,46,49,46,51] from rfl] at ht
    first
    |(rw [YF h53] at ht;rw [ht];refine .same (.blk rfl (fun j hj=>?_) .nil);have:=Qh (fg (l.take i)) (tH (l.getD i ([],[])).2) j hj;exact this)
    |(rw [YE h53,YF h55] at ht;rw [ht];exact .same (.blk rfl (fun j hj=>Qf _ _ j hj) .nil))
    |(rw [YE h53,YE h55,YF h57] at ht;rw [ht];exact .same (.blk rfl (fun j hj=>Qg _ _ j hj) .nil))
    |(rw [YE h53,YE h55,YE h57] at ht;rw [ht];exact .same (.same .nil))
  refine U 51600006 ?_;refine ap (fun h55=>?_) fun h55=>?_
  ·refine U 10050100200 ?_
   refine aq (aA 1 ?_)
   refine U 851920084004005 ?_
   refine aw (i+1) ?_ ?_ (h5:=?_) (h7:=?_)
   ·show i+1≤l.length;omega
   ·show l.length-(i+1)<l.length-i;omega
   ·exact .cons (cI O) .nil
   ·have ht:=nW (l:=l) (i:=i) O
    unfold ul at ht
    rw [show nO=[49,46,51,46,57,57,57,57,46,49,46,49] from rfl,show rm=[49,46,51,46,57,57,57,57,46,49,46,50] from rfl,show nN=[49,46,51,46,57,57,57,57,46,49,46,51] from rfl] at ht
    first
    |(rw [YF h53] at ht;rw [ht];refine .same (.blk rfl (fun j hj=>?_) .nil);have:=Qh (fg (l.take i)) (tH (l.getD i ([],[])).2) j hj;exact this)
    |(rw [YE h53,YF h55] at ht;rw [ht];exact .same (.blk rfl (fun j hj=>Qf _ _ j hj) .nil))
    |(rw [YE h53,YE h55,YF h57] at ht;rw [ht];exact .same (.blk rfl (fun j hj=>Qg _ _ j hj) .nil))
    |(rw [YE h53,YE h55,YE h57] at ht;rw [ht];exact .same (.same .nil))
  refine U 51600006 ?_;refine ap (fun h57=>?_) fun h57=>?_
  rotate_left
  ·refine U 8519200840040010 ?_
   refine aw (i+1) ?_ ?_ (h5:=?_) (h7:=?_)
   ·show i+1≤l.length;omega
   ·show l.length-(i+1)<l.length-i;omega
   ·exact .cons (cI O) .nil
   ·have ht:=nW (l:=l) (i:=i) O
    unfold ul at ht
    rw [show nO=[49,46,51,46,57,57,57,57,46,49,46,49] from rfl,show rm=[49,46,51,46,57,57,57,57,46,49,46,50] from rfl,show nN=[49,46,51,46,57,57,57,57,46,49,46,51] from rfl] at ht
    first
    |(rw [YF h53] at ht;rw [ht];refine .same (.blk rfl (fun j hj=>?_) .nil);have:=Qh (fg (l.take i)) (tH (l.getD i ([],[])).2) j hj;exact this)
    |(rw [YE h53,YF h55] at ht;rw [ht];exact .same (.blk rfl (fun j hj=>Qf _ _ j hj) .nil))
    |(rw [YE h53,YE h55,YF h57] at ht;rw [ht];exact .same (.blk rfl (fun j hj=>Qg _ _ j hj) .nil))
    |(rw [YE h53,YE h55,YE h57] at ht;rw [ht];exact .same (.same .nil))
  refine U 100050100200 ?_
  refine aq (aA 1 ?_)
  refine U 851920084004005 ?_
  refine aw (i+1) ?_ ?_ (h5:=?_) (h7:=?_)
  ·show i+1≤l.length;omega
  ·show l.length-(i+1)<l.length-i;omega
  ·exact .cons (cI O) .nil
  ·have ht:=nW (l:=l) (i:=i) O
   unfold ul at ht
   rw [show nO=[49,46,51,46,57,57,57,57,46,49,46,49] from rfl,show rm=[49,46,51,46,57,57,57,57,46,49,46,50] from rfl,show nN=[49,46,51,46,57,57,57,57,46,49,46,51] from rfl] at ht
   first
   |(rw [YF h53] at ht;rw [ht];refine .same (.blk rfl (fun j hj=>?_) .nil);have:=Qh (fg (l.take i)) (tH (l.getD i ([],[])).2) j hj;exact this)
   |(rw [YE h53,YF h55] at ht;rw [ht];exact .same (.blk rfl (fun j hj=>Qf _ _ j hj) .nil))
   |(rw [YE h53,YE h55,YF h57] at ht;rw [ht];exact .same (.blk rfl (fun j hj=>Qg _ _ j hj) .nil))
   |(rw [YE h53,YE h55,YE h57] at ht;rw [ht];exact .same (.same .nil))

theorem Cv {gs:List Nat} (l:List P2) (hl:l.length≤1000000):cc gs Tryz.prog 143 [je l] (.tup 2 (fl [kh (lr l).1,.c (.bool (decide ((lr l).2=0)))])):=by
 refine aj 69 Tryz.func143 fun al w0 F0 St0=>?_;refine dP ?_
 refine au (cl (n:=3) oR rfl fun p1=>?_)
 refine U 20516751 ?_;refine ax (α:=Nat) [3,4,5,6,7,8,9,10,11,12,13,14,15,16,17,18,19,20,21,22,23,24,25,26,27,28,29,30,31,32,33,34,35,36,37,38,39,40,41,42,43,44,45,46,47,48,49,50,51,52,53,54,55,56,57,58,59,60,61,62,63,64,65,66,67] (fun k=>[(4,.c (.int .i64 (k:Nat)))]) (fun k=>[(p1,.blk 3 fun _=>.top)]) (fun k=>1≤k∧k≤6∧∀ q:Int,1≤q→q<(k:Nat)→¬ qg l q) (fun k=>6-k) (1) ?_ (fun _=>rfl) ?_ ?_ ?_
 ·exact ⟨by omega,by omega,fun q h1 h2=>by omega⟩
 ·exact .cons I .nil
 ·exact .blk rfl (fun _ _=>aa.top _) .nil
 ·rintro k ⟨hk1,hk6,hno⟩
  refine U 52167 ?_;refine ap (fun h41=>?_) fun h41=>?_
  rotate_left
  ·refine U 684000200020006000 ?_;refine jq (ai (n:=3) rfl oR CJ rfl rfl) ?_
   refine aq (aA 3 ?_)
   refine U 51 ?_
   refine jR (eA (hres:=bB rfl (bD 3) bJ) (hv:=?_))
   rw [MK (fun q h1 h5=>hno q h1 O)]
   exact cT (aa.agg3 I I I) I
  refine U 16207810 ?_;refine jq (ai (n:=3) rfl oR CJ rfl rfl) ?_
  refine au (cl (n:=3) oR rfl fun p2=>?_)
  refine aq (aA 3 ?_)
  refine U 5 ?_;refine dW (α:=Unit) [15,16,17,18,19,20,21,22,23,24,25] (fun _=>[]) (fun _=>[(p1,.blk 3 fun _=>.top),(p2,.blk 3 (sF ((k:Int),[],(eW l k).2.2)))]) (fun _=>True) (fun _=>rfl) ?_ ?_
  ·refine U 52316 ?_;refine ap (fun h43=>?_) fun h43=>?_
   rotate_left
   ·refine U 810 ?_
    refine cU (()) ?_ (h5:=?_) (h7:=?_)
    ·trivial
    ·exact .nil
    ·exact .same (.blk rfl (fun j hj=>by rcases j with _|_|_|j <;> first|exact I|omega|(refine aa.strL ?_;unfold eW;simp_all;done)) .nil)
   refine U 9311200 ?_;refine jq (dU (i:=(l.length-1)) (hz:=by omega)) ?_;refine U 100060100 ?_
   refine aq (aA 1 ?_)
   refine U 85 ?_
   refine cU (()) ?_ (h5:=?_) (h7:=?_)
   ·trivial
   ·exact .nil
   ·exact .same (.blk rfl (fun j hj=>by rcases j with _|_|_|j <;> first|exact I|omega|(refine aa.strL ?_;unfold eW;simp_all;done)) .nil)
  ·rintro u _
   refine dW (α:=Unit) [26,27,28,29,30,31,32,33,34,35,36,37] (fun _=>[]) (fun _=>[(p1,.blk 3 fun _=>.top),(p2,.blk 3 (sF (eW l k)))]) (fun _=>True) (fun _=>rfl) ?_ ?_
   ·refine U 1216 ?_;refine aK 28 (fun g46=>?_) fun g46=>?_
    rotate_left
    ·refine U 8103005500444 ?_
     refine cU (()) ?_ (h5:=?_) (h7:=?_)
     ·trivial
     ·exact .nil
     ·exact .same (.blk rfl (fun j hj=>by rcases j with _|_|_|j <;> first|exact I|(refine aa.strL ?_;unfold eW;simp_all;done)) .nil)
    refine U 5100000000231 ?_;refine ap (fun h46=>?_) fun h46=>?_
    rotate_left
    ·refine U 810 ?_
     refine cU (()) ?_ (h5:=?_) (h7:=?_)
     ·trivial
     ·exact .nil
     ·exact .same (.blk rfl (fun j hj=>by rcases j with _|_|_|j <;> first|exact I|(refine aa.strL ?_;unfold eW;simp;omega)) .nil)
    refine U 1200 ?_;refine jq (dU (i:=1)) ?_;refine U 10060100 ?_
    refine aq (aA 1 ?_)
    refine U 85 ?_
    refine cU (()) ?_ (h5:=?_) (h7:=?_)
    ·trivial
    ·exact .nil
    ·exact .same (.blk rfl (fun j hj=>by rcases j with _|_|_|j <;> first|exact I|(refine aa.strL ?_;unfold eW;simp_all;done)) .nil)
   ·rintro u _
    refine U 67 ?_;refine gw (bq 3) ?_
    refine au (ar (yN (eW l k)) ?_)
    refine U 530 ?_;refine ap (fun h49=>?_) fun h49=>?_
    ·refine U 851912008400020006000 ?_
     refine aw (k+1) ?_ ?_ (h5:=?_) (h7:=?_)
     ·refine ⟨by omega,by omega,fun q h1 h2=>?_⟩
      by_cases hq:q=(k:Int)
      ·rw [hq]
       exact fun hi=>absurd hi.1 (by simpa using h49)
      ·exact hno q h1 O
     ·show 6-(k+1)<6-k;omega
     ·exact .cons (cI O) .nil
     ·exact .same .nil
    refine U 810 ?_
    have hr:bW (eW l k)=true:=by simpa using h49
    refine dP ?_;refine gw (bq 3) ?_
    refine au (ar (Ii (eW l k) hr) ?_)
    refine U 51 ?_
    obtain ⟨W,hW⟩:∃ W,W=bX (eW l k):=⟨_,rfl⟩
    rw [← hW]
    refine U 20516751231316 ?_;refine ax (α:=Nat×Bool) [7,8,48,49,50,51,52,53,54,55,56,57,58,59,60,61,62,63,64,65] (fun (i,b)=>[(7,.c (.bool b)),(8,.c (.int .i64 (i:Nat)))]) (fun (i,b)=>[(p1,.blk 3 fun _=>.top),(p2,.blk 3 (sF (eW l k)))]) (fun (i,b)=>i≤W.length∧(b=true→W.length=l.length∧W.take i=l.take i)∧(b=false→W≠l)) (fun p=>W.length-p.1) ((0,decide (W.length=l.length))) ?_ (fun _=>rfl) ?_ ?_ ?_
    ·exact ⟨YT _,fun h=>⟨by simpa using h,by simp⟩,fun h e=>by rw [e] at h;simp at h⟩
    ·exact .cons (cB (decide_eq_decide.2 O)) (.cons I .nil)
    ·exact .same (.same .nil)
    ·rintro ⟨i,b⟩ ⟨hi,hw1,hw2⟩
     refine U 1167 ?_;refine aK 49 (fun g54=>?_) fun g54=>?_
     rotate_left
     ·refine U 5168400020002000600030055004444 ?_;refine ap (fun h57=>?_) fun h57=>?_
      ·refine dP ?_;refine gw (bq 3) ?_
       refine aq (aA 3 ?_)
       refine U 51 ?_
       refine jR (Jq (kq (kq (Jq (kq (eA (hres:=bB rfl (bD 3) bJ) (hv:=?_)))))))
       have hbt:b=true:=by exact h57
       have hWl:W=l:=by
        obtain ⟨hl1,hl2⟩:=hw1 hbt
        have hle:W.length≤i:=by (simp_all;done)
        rw [Y0 O,Y0 O] at hl2
        exact hl2
       have hk:qg l k:=⟨hr,by rw [← hW];exact hWl⟩
       rw [wZ hk]
       exact cT (aa.agg3 I I I) I
      refine U 85191200840010 ?_
      refine aw (k+1) ?_ ?_ (h5:=?_) (h7:=?_)
      ·refine ⟨by omega,by omega,fun q h1 h2=>?_⟩
       by_cases hq:q=(k:Int)
       ·rw [hq]
        (rintro ⟨_,hi⟩;rw [← hW] at hi;exact hw2 (by simpa using h57) hi)
       ·exact hno q h1 O
      ·show 6-(k+1)<6-k;omega
      ·exact .cons (cI O) .nil
      ·exact .same .nil
     refine U 51000000002311 ?_;refine ap (fun h54=>?_) fun h54=>?_
     ·refine U 207810 ?_
      obtain ⟨hl1,hl2⟩:=hw1 g54
      refine dY (.rd 0 (.rd 1 (.rd 2 (.rd 3 (.rd 4 (.rd 5 (.rd 6 (.rd 7 (.rd 8 (.rd 9 .done)))))))))) ?_;refine U 900007070 ?_;refine aM (mn 2) ?_;refine U 900007070 ?_;refine aM (mn 2) ?_;refine aM (CG rfl rfl rfl Tryz.underlying158 (by kernel_rfl) (by kernel_rfl) (.str Tryz.underlying9 jD rfl rfl (.str Tryz.underlying9 jD rfl rfl .nil)) rfl) ?_;refine U 8519120084008070 ?_
      refine aw ((i+1,decide (W.getD i ([],[])=l.getD i ([],[])))) ?_ ?_ (h5:=?_) (h7:=?_)
      ·refine ⟨by omega,fun hb=>⟨hl1,?_⟩,fun hb e=>?_⟩
       ·have hb:W.getD i ([],[])=l.getD i ([],[]):=by simpa using hb
        rw [sa O,sa O] at hb
        rw [YO (show i<W.length by omega),YO (show i<l.length by omega),hl2,hb]
       ·rw [e] at hb;simp at hb
      ·show W.length-(i+1)<W.length-i;omega
      ·exact .cons (cB (decide_eq_decide.2 ⟨fun h=>blx (uc.1 h.1) (uc.1 h.2.1),fun h=>⟨by rw [h],by rw [h],trivial⟩⟩)) (.cons (cI O) .nil)
      ·exact .same (.same .nil)
     refine U 51684000200020006000 ?_;refine ap (fun h57=>?_) fun h57=>?_
     ·refine dP ?_;refine gw (bq 3) ?_
      refine aq (aA 3 ?_)
      refine U 51 ?_
      refine jR (Jq (kq (kq (Jq (kq (eA (hres:=bB rfl (bD 3) bJ) (hv:=?_)))))))
      have hbt:b=true:=by exact h57
      have hWl:W=l:=by
       obtain ⟨hl1,hl2⟩:=hw1 hbt
       have hle:W.length≤i:=by omega
       rw [Y0 O,Y0 O] at hl2
       exact hl2
      have hk:qg l k:=⟨hr,by rw [← hW];exact hWl⟩
      rw [wZ hk]
      exact cT (aa.agg3 I I I) I
     refine U 85191200840010 ?_
     refine aw (k+1) ?_ ?_ (h5:=?_) (h7:=?_)
     ·refine ⟨by omega,by omega,fun q h1 h2=>?_⟩
      by_cases hq:q=(k:Int)
      ·rw [hq]
       (rintro ⟨_,hi⟩;rw [← hW] at hi;exact hw2 (by simpa using h57) hi)
      ·exact hno q h1 O
     ·show 6-(k+1)<6-k;omega
     ·exact .cons (cI O) .nil
     ·exact .same .nil

theorem wJ (l:List P2):(lr l).2=0∨((lr l).2=9∧(lr l).1=dw):=by
 unfold lr;split
 ·exact .inl rfl
 ·exact .inr ⟨rfl,rfl⟩
end
section
open Go.RowKit Cal
def v8 (t:Z):VV:=⟨8,0,false,[],t⟩
def v7 (t:Z) (most:Int):VV:=⟨7,most,false,[],t⟩
def w1 (tag:Int):VV:=⟨1,tag,false,[],[]⟩
def w2:VV:=⟨2,0,false,[],[]⟩
def pv (p:P2):List VV:=[w1 48,v8 p.1,v7 p.2 64,w2]
def tv (s:S3):List VV:=w1 48::((bX s).flatMap pv++[w2])
def x7 (s:S3) (w:W8):W8:=if bW s=true then f8 (tv s) w else bZ 9 w
def ED (s:S3) (r:R8):R8:=if bW s=true then LO (tv s) r else ⟨r.tags,r.rows,if r.e=0 then 9 else r.e⟩
theorem sP (tag:Int) (s:W8):mr (w1 tag) s=di tag s:=by unfold mr;rw [YF (show (w1 tag).kind=1 from rfl)];rfl
theorem Aa (s:W8):mr w2 s=dN s:=by unfold mr;rw [YE (show ¬ w2.kind=1 by decide),YF (show w2.kind=2 from rfl)]
theorem OH (t:Z) (s:W8):mr (v8 t) s=fD 6 (ja t) (bH t).2 s:=by
 unfold mr
 rw [YE (show ¬ (v8 t).kind=1 by show ¬ (8:Int)=1;decide),YE (show ¬ (v8 t).kind=2 by show ¬ (8:Int)=2;decide),YE (show ¬ (v8 t).kind=11 by show ¬ (8:Int)=11;decide)]
 rfl
theorem OI (t:Z) (m:Int) (s:W8):mr (v7 t m) s=fD 12 (if ay t m=0 then t else []) (ay t m) s:=by
 unfold mr
 rw [YE (show ¬ (v7 t m).kind=1 by show ¬ (7:Int)=1;decide),YE (show ¬ (v7 t m).kind=2 by show ¬ (7:Int)=2;decide),YE (show ¬ (v7 t m).kind=11 by show ¬ (7:Int)=11;decide)]
 rfl
theorem tA {l:Z} (h:kA l=true):(∀ c ∈ l,32≤c.toNat∧c.toNat<127)∧l≠[]∧l.length≤24:=by
 simp only [kA,YK,YP,Y8] at h
 obtain ⟨⟨⟨⟨h1,h2⟩,_⟩,_⟩,h5⟩:=h
 refine ⟨fun c hc=>?_,h1,h2⟩
 have:=h5 c hc
 simp only [nS,Zx,YK,YP] at this
 omega
theorem uv:∀ {l:Z},(∀ c ∈ l,32≤c.toNat∧c.toNat<127)→gi l=true
 | [],_=>rfl
 | c::l,h=>by
  have hc:=h c Y2
  have e:bt (c::l) 0=c.toNat:=rfl
  rw [pR (by simp) (by rw [e];omega),e,jK]
  exact uv fun d hd=>h d (Y7 _ hd)
theorem mD {l:Z} {m:Int} (h:∀ c ∈ l,32≤c.toNat∧c.toNat<127) (h0:l≠[]) (hm:(l.length:Int)≤m):ay l m=0:=by
 have hp:=Zh.2 h0
 unfold ay
 rw [jK,jK,YE (by rw [uv h];decide)]
theorem gZ {l:Z} {m:Int} (h:ay l m=0):(l.length:Int)≤m:=by
 unfold ay at h
 by_cases h0:l.length=0
 ·rw [YF h0] at h;cases h
 ·rw [YE h0] at h
  by_cases h1:m<l.length
  ·rw [YF h1] at h;cases h
  ·omega
def qR (p:P2):Prop:=(bH p.1).2=0∧ay p.2 64=0
def kD (p:P2):List (Int×Z):=[(6,ja p.1),(12,p.2)]
def qM (p:P2):Int×Z:=(48,((kD p).map ny).flatten)
def qN (p:P2):Z:=ny (qM p)
def V3 (s:S3):Int×Z:=(48,(((bX s).map qM).map ny).flatten)
def xU (s:S3):Z:=ny (V3 s)
theorem tq:(bH nO).2=0∧(bH rm).2=0∧(bH nN).2=0:=by decide +kernel
theorem Ep {k:Int} (h1:1≤k) (h5:k≤5):(∀ c ∈ fI k,32≤c.toNat∧c.toNat<127)∧fI k≠[]∧(fI k).length≤8:=by
 obtain rfl|rfl|rfl|rfl|rfl:=kinds h1 h5 <;> decide
theorem jL {s:S3} (h:bW s=true):(∀ p ∈ bX s,qR p∧p.1.length=12∧p.2.length≤24)∧(bX s).length≤3:=by
 obtain ⟨h1,h5,hn,h2,hs⟩:=(ln s).1 h
 have hw:=Ep h1 h5
 have hn':=tA hn
 have gk:qR (nO,fI s.1)∧(nO,fI s.1).1.length=12∧(nO,fI s.1).2.length≤24:=⟨⟨tq.1,mD hw.1 hw.2.1 (by have:=hw.2.2;show ((fI s.1).length:Int)≤64;omega)⟩,rfl,by have:=hw.2.2;dsimp only;omega⟩
 have gn:qR (nN,s.2.2)∧(nN,s.2.2).1.length=12∧(nN,s.2.2).2.length≤24:=⟨⟨tq.2.2,mD hn'.1 hn'.2.1 (by have:=hn'.2.2;show (s.2.2.length:Int)≤64;omega)⟩,rfl,hn'.2.2⟩
 rw [y7 h]
 by_cases hk:s.1=2
 ·have hsp:=tA (h2 hk)
  have gs:qR (rm,s.2.1)∧(rm,s.2.1).1.length=12∧(rm,s.2.1).2.length≤24:=⟨⟨tq.2.1,mD hsp.1 hsp.2.1 (by have:=hsp.2.2;show (s.2.1.length:Int)≤64;omega)⟩,rfl,hsp.2.2⟩
  rw [YF hk]
  refine ⟨fun p hp=>?_,by simp⟩
  rcases Zg.1 hp with rfl|hp
  ·exact gk
  ·rcases Zg.1 hp with rfl|hp
   ·exact gs
   ·rw [Zs.1 hp];exact gn
 ·rw [YE hk]
  refine ⟨fun p hp=>?_,by simp⟩
  rcases Zg.1 hp with rfl|hp
  ·exact gk
  ·rw [Zs.1 hp];exact gn
theorem pV {p:P2} (h:qR p) (h1:p.1.length≤300):(((kD p).map ny).flatten).length≤1000∧(ja p.1).length≤600∧p.2.length≤64:=by
 have h2:=A4 p.1
 have h3:=gZ h.2
 have h4:=ez 6 (ja p.1)
 have h5:=ez 12 p.2
 simp only [kD,ny,Zc,aAx,Zv,aKx,ZH,YI]
 omega
theorem mE (b:Z) {t:Int} {ls:YD} {fr:List (Int×YD)} {d:Z}:de b ⟨(t,ls)::fr,d,0⟩=⟨(t,ls++[b])::fr,d,0⟩:=rfl
theorem Sd {p:P2} (h:qR p) (h1:p.1.length≤300) {s:W8} (hk:s.k=0) (hf:s.fr.length<16):f8 (pv p) s=de (qN p) s:=by
 obtain ⟨l1,l2,l3⟩:=pV h h1
 obtain ⟨fr,d,k⟩:=s
 simp only at hk hf
 subst hk
 show mr w2 (mr (v7 p.2 64) (mr (v8 p.1) (mr (w1 48) ⟨fr,d,0⟩)))=_
 rw [sP,Gx rfl jD hf,OH,h.1,rg rfl jD O,mE,OI,h.2,YF rfl,rg rfl jD O,mE,Aa]
 have e:([]++[bL 6 (ja p.1)]++[bL 12 p.2]:YD).flatten=((kD p).map ny).flatten:=rfl
 rw [pz jD jD (by rw [e];omega),e]
 rfl
theorem DP:∀ (ps:List P2) {ls:YD} {fr:List (Int×YD)} {d:Z},(∀ p ∈ ps,qR p∧p.1.length≤300)→fr.length<15→f8 (ps.flatMap pv) ⟨(48,ls)::fr,d,0⟩=⟨(48,ls++ps.map qN)::fr,d,0⟩
 | [],ls,fr,d,_,_=>by simp [f8]
 | p::ps,ls,fr,d,h,hf=>by
  rw [List.flatMap_cons,qq,Sd (h p Y2).1 (h p Y2).2 rfl (by simp only [List.length_cons];omega),mE,DP ps (fun q hq=>h q (Y7 _ hq)) hf]
  simp
theorem u7 {s:S3} (h:bW s=true):(((bX s).map qM).map ny).flatten.length≤4000∧(xU s).length≤4100:=by
 obtain ⟨h1,h2⟩:=jL h
 have key:∀ ps:List P2,(∀ p ∈ ps,qR p∧p.1.length=12∧p.2.length≤24)→((ps.map qM).map ny).flatten.length≤1010 * ps.length:=fun ps=>by
  induction ps with
  | nil=>intro _;simp
  | cons p ps ih =>
   intro h
   have h3:=ih fun q hq=>h q (Y7 _ hq)
   obtain ⟨h4,h5,_⟩:=h p Y2
   have h6:=pV h4 O
   have h7:=ez 48 ((kD p).map ny).flatten
   have h8:(ny (qM p)).length=(bL 48 ((kD p).map ny).flatten).length:=rfl
   simp only [Zc,Zv,YI,List.length_cons]
   omega
 have h3:=key _ h1
 have h4:=ez 48 (((bX s).map qM).map ny).flatten
 have h5:(xU s).length=(bL 48 (((bX s).map qM).map ny).flatten).length:=rfl
 omega
theorem QX {s:S3} (h:bW s=true) {w:W8} (hk:w.k=0) (hf:w.fr.length<15):x7 s w=de (xU s) w:=by
 obtain ⟨h1,h2⟩:=jL h
 obtain ⟨l1,l2⟩:=u7 h
 obtain ⟨fr,d,k⟩:=w
 simp only at hk hf
 subst hk
 unfold x7
 rw [YF h]
 show f8 ((bX s).flatMap pv++[w2]) (mr (w1 48) ⟨fr,d,0⟩)=_
 rw [sP,Gx rfl jD (by dsimp only;omega),qq,DP _ (fun p hp=>⟨(h1 p hp).1,by have:=(h1 p hp).2.1;omega⟩) hf]
 rw [show ∀ X,f8 [w2] X=mr w2 X from fun _=>rfl,Aa]
 have e:([]++(bX s).map qN:YD).flatten=(((bX s).map qM).map ny).flatten:=by rw [List.nil_append,Z9];rfl
 rw [pz jD jD (by rw [e];omega),e]
 rfl
def SN:W8:=⟨[],[],0⟩
theorem mT {t:Int} (h:-9223372036854775808≤t∧t≤9223372036854775807):jY (w1 t):=⟨h,by simp [w1],by simp [w1]⟩
theorem vW:jY w2:=⟨by simp [w2],by simp [w2],by simp [w2]⟩
theorem Cf {t:Z} (h:t.length≤300):jY (v8 t):=⟨by simp [v8],by simp [v8],h⟩
theorem Cg {t:Z} (h:t.length≤300):jY (v7 t 64):=⟨by simp [v7],by simp [v7],h⟩
theorem Ch {p:P2} (h1:p.1.length≤300) (h2:p.2.length≤300):∀ v ∈ pv p,jY v:=fun v hv=>by
 simp only [pv,Zg,Zo,or_false] at hv
 rcases hv with rfl|rfl|rfl|rfl
 ·exact mT jD
 ·exact Cf h1
 ·exact Cg h2
 ·exact vW
theorem A0:∀ ps:List P2,(ps.flatMap pv).length=4 * ps.length
 | []=>rfl
 | p::ps=>by
  rw [List.flatMap_cons,YI,A0 ps,List.length_cons]
  show 4+_=_
  omega
theorem NM {i:Nat} {r:R8} {w:W8} (hI:gP i r w) (s:S3):gP (i+14) (ED s r) (x7 s w):=by
 unfold ED x7
 by_cases h:bW s=true
 ·rw [YF h,YF h]
  obtain ⟨h1,h2⟩:=jL h
  have hl:(tv s).length≤14:=by
   unfold tv
   rw [List.length_cons,YI,A0]
   simp only [ZC]
   omega
  refine xf (Bo (tv s) hI fun v hv=>?_) O
  unfold tv at hv
  rcases Zg.1 hv with rfl|hv
  ·exact mT jD
  ·rcases akx.1 hv with hv|hv
   ·obtain ⟨p,hp,hv⟩:=List.mem_flatMap.1 hv
    obtain ⟨_,h3,h4⟩:=h1 p hp
    exact Ch O O v hv
   ·rw [Zs.1 hv];exact vW
 ·rw [YE h,YE h]
  exact xf (Dl hI 9) O
def aL:AA:=⟨1,48,0,0⟩
def aO:AA:=⟨8,0,0,0⟩
def aT:AA:=⟨7,0,0,64⟩
def aE:AA:=⟨2,0,0,0⟩
def am:nv P2:=fun l k =>
 let r1:=ac aL l k
 let r2:=ac aO r1.l r1.k
 let r3:=ac aT r2.l r2.k
 let r4:=ac aE r3.l r3.k
 ((r4.l,r4.k),(r2.v.t,r3.v.t))
theorem said_O (b:Z):saidM aO b=(vT (ee b).1,(ee b).2):=rfl
theorem said_T (b:Z):saidM aT b=(vT (if ay b 64=0 then b else []),ay b 64):=rfl
theorem gu:lU am:=by
 have key:∀ l k,0<l.length→bN l k=true→dT (am l k).1.1 (am l k).1.2<dT l k∧((am l k).1.2=0→(am l k).1.1.length=l.length)∧l.length≤(am l k).1.1.length∧(am l k).1.1.length≤l.length+16:=by
  intro l k hl hm
  have hk:=(gH hm).1
  obtain ⟨a1,a2,a3,a4,a5,a6,a7⟩:=gr aL (l:=l) (k:=k) hl
  have a3':=a3 hk jD
  obtain ⟨a41,a42⟩:=a4 rfl
  have p1:l.length≤(ac aL l k).l.length∧(ac aL l k).l.length≤l.length+1:=by
   by_cases h:(ac aL l k).k=0
   ·have:=a41 h;omega
   ·have:=a42 h;omega
  obtain ⟨b1,b2,b3,b4,b5,b6,b7⟩:=gr aO (l:=(ac aL l k).l) (k:=(ac aL l k).k) O
  have b6':=b6 jD jD
  obtain ⟨c1,c2,c3,c4,c5,c6,c7⟩:=gr aT (l:=(ac aO (ac aL l k).l (ac aL l k).k).l) (k:=(ac aO (ac aL l k).l (ac aL l k).k).k) O
  have c6':=c6 jD jD
  obtain ⟨d1,d2,d3,d4,d5,d6,d7⟩:=gr aE (l:=(ac aT (ac aO (ac aL l k).l (ac aL l k).k).l (ac aO (ac aL l k).l (ac aL l k).k).k).l) (k:=(ac aT (ac aO (ac aL l k).l (ac aL l k).k).l (ac aO (ac aL l k).l (ac aL l k).k).k).k) O
  obtain ⟨d51,d52⟩:=d5 rfl
  show dT (ac aE _ _).l (ac aE _ _).k<_∧((ac aE _ _).k=0→(ac aE _ _).l.length=_)∧_≤(ac aE _ _).l.length∧(ac aE _ _).l.length≤_
  refine ⟨by omega,fun h=>?_,?_,?_⟩
  ·have:=d51 h
   have:=a41 (b7 (c7 (d7 h)))
   omega
  ·by_cases h:(ac aE (ac aT (ac aO (ac aL l k).l (ac aL l k).k).l (ac aO (ac aL l k).l (ac aL l k).k).k).l (ac aT (ac aO (ac aL l k).l (ac aL l k).k).l (ac aO (ac aL l k).l (ac aL l k).k).k).k).k=0
   ·have:=d51 h
    have:=a41 (b7 (c7 (d7 h)))
    omega
   ·have:=d52 h;omega
  ·by_cases h:(ac aE (ac aT (ac aO (ac aL l k).l (ac aL l k).k).l (ac aO (ac aL l k).l (ac aL l k).k).k).l (ac aT (ac aO (ac aL l k).l (ac aL l k).k).l (ac aO (ac aL l k).l (ac aL l k).k).k).k).k=0
   ·have:=d51 h;omega
   ·have:=d52 h;omega
 exact ⟨fun l k h1 h2=>(key l k h1 h2).1,fun l k h1 h2=>(key l k h1 h2).2.1,fun l k h1 h2=>(key l k h1 h2).2.2⟩
theorem y9 (p:P2):((kD p).map ny).flatten=bL 6 (ja p.1)++(bL 12 p.2++[]):=by simp [kD,ny]
def Tt (p:P2):Prop:=qR p∧(ja p.1).length≤65530∧(((kD p).map ny).flatten).length≤65530
theorem Gv:ud am qN Tt:=by
 refine ⟨fun ls p r h=>?_,fun ls x k h=>?_,fun p _=>vu _⟩
 ·obtain ⟨⟨h1,h2⟩,h3,h4⟩:=h
  have h5:=gZ h2
  obtain ⟨e1,e2,_⟩:=qp ls (t:=48) (b:=((kD p).map ny).flatten) r jD h4
  obtain ⟨f1,f2⟩:=gG aL rfl (ls++[qN p++r]) 0
  have g1:(ac aL (ls++[qN p++r]) 0).l=ls++[r]++[bL 6 (ja p.1)++(bL 12 p.2++[])]:=by rw [f1,← y9];exact e1
  have g2:(ac aL (ls++[qN p++r]) 0).k=0:=f2.trans e2
  have hpm:ja p.1=CI (bH p.1).1:=by unfold ja;rw [YF h1]
  have hO:saidM aO (ja p.1)=(vT p.1,0):=by rw [said_O,hpm,Fm h1]
  have hT:saidM aT p.2=(vT p.2,0):=by rw [said_T,h2,YF rfl]
  have g3:=pf aO (ls++[r]) (b:=ja p.1) (bL 12 p.2++[]) jD h3 (by rw [hO])
  have g4:=pf aT (ls++[r]) (b:=p.2) [] jD O (by rw [hT])
  have g5:=qf (ls:=ls++[r]) (by simp)
  obtain ⟨g6,g7⟩:=gF aE rfl (ls++[r]++[[]]) 0
  have tO:bR aO=6:=rfl
  have tT:bR aT=12:=rfl
  rw [tO] at g3
  rw [tT] at g4
  unfold am
  dsimp only
  rw [g1,g2,g3]
  dsimp only
  rw [g4]
  dsimp only
  rw [g6,g7,g5.1,g5.2,hO,hT]
  rfl
 ·have hk4:(ac aE (ac aT (ac aO (ac aL (ls++[x]) k).l (ac aL (ls++[x]) k).k).l (ac aO (ac aL (ls++[x]) k).l (ac aL (ls++[x]) k).k).k).l (ac aT (ac aO (ac aL (ls++[x]) k).l (ac aL (ls++[x]) k).k).l (ac aO (ac aL (ls++[x]) k).l (ac aL (ls++[x]) k).k).k).k).k=0:=h
  have len1:0<(ac aL (ls++[x]) k).l.length:=by
   obtain ⟨a1,a2,a3,a4,_⟩:=gr aL (l:=ls++[x]) (k:=k) (by simp)
   obtain ⟨a41,a42⟩:=a4 rfl
   by_cases h:(ac aL (ls++[x]) k).k=0
   ·rw [a41 h];omega
   ·rw [a42 h];simp
  obtain ⟨_,_,_,_,_,b6,b7⟩:=gr aO (l:=(ac aL (ls++[x]) k).l) (k:=(ac aL (ls++[x]) k).k) len1
  have b6':=b6 jD jD
  obtain ⟨_,_,_,_,_,c6,c7⟩:=gr aT (l:=(ac aO (ac aL (ls++[x]) k).l (ac aL (ls++[x]) k).k).l) (k:=(ac aO (ac aL (ls++[x]) k).l (ac aL (ls++[x]) k).k).k) O
  have c6':=c6 jD jD
  obtain ⟨_,_,_,_,_,_,d7⟩:=gr aE (l:=(ac aT (ac aO (ac aL (ls++[x]) k).l (ac aL (ls++[x]) k).k).l (ac aO (ac aL (ls++[x]) k).l (ac aL (ls++[x]) k).k).k).l) (k:=(ac aT (ac aO (ac aL (ls++[x]) k).l (ac aL (ls++[x]) k).k).l (ac aO (ac aL (ls++[x]) k).l (ac aL (ls++[x]) k).k).k).k) O
  have hk3:=d7 hk4
  have hk2:=c7 hk3
  have hk1:=b7 hk2
  obtain ⟨f1,f2⟩:=gG aL rfl (ls++[x]) k
  obtain ⟨hk0,b,r,e1,e2,e3,e4⟩:=rH (t:=48) jD (show (ae 48 (ls++[x]) k).k=0 from f2.symm.trans hk1)
  have g1:(ac aL (ls++[x]) k).l=ls++[r]++[b]:=f1.trans e3
  rw [g1,hk1] at hk2 hk3 hk4
  obtain ⟨_,o,r2,o1,o2,o3,o4⟩:=lp (a:=aO) jD hk2
  rw [o4] at hk3 hk4
  obtain ⟨_,t,r3,t1,t2,t3,t4⟩:=lp (a:=aT) jD hk3
  rw [t4] at hk4
  obtain ⟨f3,f4⟩:=gF aE rfl (ls++[r]++[r3]) 0
  dsimp only at hk4
  rw [f4] at hk4
  obtain ⟨_,u1,u2,u3⟩:=rr hk4
  subst u1
  have o3':(ee o).2=0:=o3
  have t3':ay t 64=0:=t3
  obtain ⟨q1,q2⟩:=ES o3'
  have hO:(saidM aO o).1.t=(ee o).1:=rfl
  have hT:(saidM aT t).1.t=t:=by rw [said_T];show (if ay t 64=0 then t else [])=t;rw [YF t3']
  have hb:b=((kD ((ee o).1,t)).map ny).flatten:=by
   rw [y9,o1,t1]
   show bL 6 o++(bL 12 t++[])=bL 6 (ja (ee o).1)++_
   rw [q1]
  refine ⟨hk0,((ee o).1,t),r,⟨⟨q2,t3'⟩,by rw [q1];exact o2,by rw [← hb];exact e2⟩,?_,?_⟩
  ·rw [e1,hb];rfl
  ·unfold am
   dsimp only
   rw [g1,hk1,o4]
   dsimp only
   rw [t4]
   dsimp only
   rw [f3,f4,u3,hk4,hO,hT]
def eM (l:YD) (k:Nat):YD×Nat:=co am (ah 48 l k) (ae 48 l k).k 8
def kJ (l:YD) (k:Nat):List P2:=(aD am (ah 48 l k) (ae 48 l k).k (jG am (ah 48 l k) (ae 48 l k).k 8)).2
def eG (l:YD) (k:Nat):(YD×Nat)×S3 :=
 if (eM l k).2≠0 then (eM l k,dw) else (((eM l k).1,(lr (kJ l k)).2),(lr (kJ l k)).1)
theorem tn (s:S3):((bX s).map qN).flatten=(((bX s).map qM).map ny).flatten:=by rw [Z9];rfl
theorem UY {p:P2} (h:qR p) (h1:p.1.length≤300):Tt p:=by
 obtain ⟨l1,l2,l3⟩:=pV h h1
 exact ⟨h,by omega,by omega⟩
theorem N5 {s:S3} (h:bW s=true) (ls:YD) (r:Z):eG (ls++[xU s++r]) 0=((ls++[r],0),s):=by
 obtain ⟨h1,h2⟩:=jL h
 obtain ⟨l1,l2⟩:=u7 h
 have e:xU s=bL 48 ((bX s).map qN).flatten:=by rw [tn];rfl
 obtain ⟨r1,r2⟩:=Gd gu Gv (tag:=48) (most:=8) ls (xs:=bX s) r jD (fun p hp=>UY (h1 p hp).1 (by have:=(h1 p hp).2.1;omega)) O (by rw [tn];omega)
 rw [← e] at r1 r2
 have hE:eM (ls++[xU s++r]) 0=(ls++[r],0):=r1
 have hL:kJ (ls++[xU s++r]) 0=bX s:=r2
 have ho:lr (bX s)=(s,0):=(A7 _ _).2 ⟨h,rfl⟩
 unfold eG
 rw [hE,hL,ho,YE (by simp)]
theorem JJ {ls:YD} {x:Z} {k:Nat} (h:(eG (ls++[x]) k).1.2=0):k=0∧∃ s r,bW s=true∧x=xU s++r∧eG (ls++[x]) k=((ls++[r],0),s):=by
 unfold eG at h ⊢
 by_cases h0:(eM (ls++[x]) k).2≠0
 ·rw [YF h0] at h;exact absurd h h0
 ·rw [YE h0] at h ⊢
  obtain ⟨hk,xs,r,g1,g2,g3,g4,g5,g6⟩:=wi gu Gv (tag:=48) (most:=8) (k:=k) ls x jD (by exact Z5.1 h0)
  have hE:eM (ls++[x]) k=(ls++[r],0):=g5
  have hL:kJ (ls++[x]) k=xs:=g6
  rw [hE,hL] at h ⊢
  dsimp only at h ⊢
  have ho:lr xs=((lr xs).1,0):=blx rfl h
  obtain ⟨hr,hp⟩:=(A7 _ _).1 ho
  refine ⟨hk,(lr xs).1,r,hr,?_,by rw [h]⟩
  have hsb:xU (lr xs).1=bL 48 (xs.map qN).flatten:=by
   show bL 48 (((bX (lr xs).1).map qM).map ny).flatten=_
   rw [← tn,hp]
  rw [g4,hsb]
end
section
variable {gs:List Nat} [dK gs]
end
section
variable {gs:List Nat} [gQ gs]
open Go.RowKit Cal

end
section
variable {P:Program} {G:Gh} {o:Oper} {env:List (Nat×CV)} {b0:Nat→CV} {H:List (Option Nat×bi)} {K:AS→Prop}
theorem pZ {f:FuncId} {v:Operand} {n d:Nat} {fv:Nat→CV} {xs:Array Operand} {ats:Array TypeId} {args:List CV} {Q:CV→List (Option Nat×bi)→Prop} {i:Nat} {x0:Option Nat×bi} (ho:o.op=.call ⟨.value v,xs,ats⟩) (hv:(⟨env,b0,H⟩:AS).eval v=.fn f n fv) (hc:bA P f=true) (hi:H[i]?=some x0) (hA:AC G.gs P f [x0] args Q)
  (he:oQ (xs.toList.map (⟨env,b0,H⟩:AS).eval++(List.range n).map fv) args) (hd:o.dst=some d) (hN:Nat.blt d G.N=true)
  (hK:∀ r H',Q r H'→∃ x,H'=[x]∧K ⟨(d,r)::env,b0,H.set i x⟩):ug P G o ⟨env,b0,H⟩ K :=
 MY ho hv hc hi hA he (kN hd hN) (fun r H' hq=>by obtain ⟨x,h1,h2⟩:=hK r H' hq;exact ⟨x,h1,by rw [dG hd];exact h2⟩)
end
section
variable {gs:List Nat} [dK gs] [qI gs]
open Go.RowKit Cal

def CM (p:P2):CV:=.agg 2 (fX p)
theorem LC {gs:List Nat} [gQ gs] {f:FuncId} (hc:bA Tryz.prog f=true) (n:Nat) (tag:Int) (ws:W8) (l:List P2) (sG:Nat→W8) (h0:uQ ws) (hs:sG 0=di tag ws) (hok:∀ i,i≤l.length→uQ (sG i)) (hl:l.length≤1000000) (hf:∀ i,i<l.length→AC gs Tryz.prog f [ii n (sG i)] [.op 0 (some n) 0,CM (l.getD i ([],[]))] (fun r H'=>r=.c (.tuple #[])∧H'=[ii n (sG (i+1))])) :
  AC gs Tryz.prog 97 [ii n ws] [.op 0 (some n) 0,.c (.int .i64 tag),je l,.fn f 0 fun _=>.top] (fun r H'=>r=.c (.tuple #[])∧H'=[ii n (dN (sG l.length))]):=by
 refine aj 26 Tryz.func97 fun al w0 F0 St0=>?_;refine U 116 ?_
 refine aq (aQ 0 (pj n ws tag h0) ?_)
 refine U 205131675 ?_;refine ax (α:=Nat) [9,15,16,17,18,19,20,21,22,23] (fun i=>[(15,.c (.int .i64 (i:Nat)))]) (fun i=>[ii n (sG i)]) (fun i=>i≤l.length) (fun i=>l.length-i) (0) ?_ (fun _=>rfl) ?_ ?_ ?_
 ·exact YT _
 ·exact .cons I .nil
 ·rw [hs];exact aP.refl _
 ·rintro i (hi:i≤l.length)
  refine U 7526 ?_;refine ap (fun h305=>?_) fun h305=>?_
  rotate_left
  ·refine U 84000200020006000 ?_
   have hie:i=l.length:=by omega
   subst hie
   refine U 1200 ?_
   refine aq (aQ 0 (np n (sG l.length) (hok _ (YG _))) ?_)
   refine U 5 ?_
   exact bV (.inr rfl) _ [_] [0] jD rfl (cM rfl) ⟨rfl,rfl⟩
  refine U 7006207810 ?_;refine jq (mn 2) ?_
  refine au (cl (n:=2) ec rfl fun p2=>?_)
  refine aq (bo 2 (fX (l.getD i ([],[]))) ?_ ?_)
  ·exact oB
  refine U 112005 ?_;refine gw (bq 2) ?_
  refine aq (pZ (i:=0) rfl rfl (by assumption) rfl (hf i O) (.cons cP (.cons (aa.agg rfl (fun j hj=>aa.of_eq (by show fX _ (0+j)=fX _ j;rw [Nat.zero_add]))) .nil)) rfl rfl ?_)
  rintro _ _ ⟨rfl,rfl⟩
  refine ⟨_,rfl,?_⟩
  refine U 851920084005 ?_
  refine aw (i+1) ?_ ?_ (h5:=?_) (h7:=?_)
  ·show i+1≤l.length;omega
  ·show l.length-(i+1)<l.length-i;omega
  ·exact .cons (cI O) .nil
  ·exact aP.refl _
theorem QY (n:Nat) {i:Nat} {r:R8} {s:W8} (hI:gP i r s) (hi:i≤900) (p:P2) (h1:p.1.length≤300) (h2:p.2.length≤300):AC gs Tryz.prog 98 [ii n s] [.op 0 (some n) 0,CM p] (fun r H'=>r=.c (.tuple #[])∧H'=[ii n (f8 (pv p) s)]):=by
 have I1:=mL hI (mT (t:=48) jD)
 rw [sP] at I1
 have I2:=mL I1 (Cf h1)
 rw [OH] at I2
 have I3:=mL I2 (Cg h2)
 rw [OI] at I3
 have hD:f8 (pv p) s=dN (fD 12 (if ay p.2 64=0 then p.2 else []) (ay p.2 64) (fD 6 (ja p.1) (bH p.1).2 (di 48 s))):=by
  show mr w2 (mr (v7 p.2 64) (mr (v8 p.1) (mr (w1 48) s)))=_
  rw [sP,OH,OI,Aa]
 refine aj 16 Tryz.func98 fun al w0 F0 St0=>?_;refine dP ?_
 refine au (ff 2 fun p1=>?_)
 refine U 165 ?_
 refine aq (aQ 0 (pj n s 48 (gv hI O)) ?_)
 refine U 5090165 ?_
 refine aq (aQ 0 (Q4 n (di 48 s) p.1 O (gv I1 O)) ?_)
 refine U 50100165 ?_
 refine aq (aQ 0 (Cb n (fD 6 (ja p.1) (bH p.1).2 (di 48 s)) p.2 64 O (gv I2 O)) ?_)
 refine U 12005 ?_
 refine aq (aQ 0 (np n (fD 12 (if ay p.2 64=0 then p.2 else []) (ay p.2 64) (fD 6 (ja p.1) (bH p.1).2 (di 48 s))) (gv I3 O)) ?_)
 refine U 5 ?_
 rw [hD]
 exact bV (.inr rfl) _ [_] [0] jD rfl (cM rfl) ⟨rfl,rfl⟩
theorem Gt (n:Nat) {i:Nat} {r:R8} {w:W8} (hI:gP i r w) (hi:i≤800) (s:S3) (L:List P2) (e:Nat) (hp:cc gs Tryz.prog 95 [kh s] (.tup 2 (fl [je L,.err e]))) (hL:∀ p ∈ L,p.1.length≤300∧p.2.length≤300) (hl:L.length≤8) :
  AC gs Tryz.prog 41 [ii n w] [.op 0 (some n) 0,kh s] (fun r H'=>r=.c (.tuple #[])∧H'=[ii n (dN (f8 (L.flatMap pv) (di 48 (bZ e w))))]):=by
 have I0:=Dl hI e
 have I1:=mL I0 (mT (t:=48) jD)
 rw [sP] at I1
 have hG:∀ j,j≤L.length→∃ r',gP (i+1+4 * j) r' (f8 ((L.take j).flatMap pv) (di 48 (bZ e w))):=fun j hj=>by
  refine ⟨_,xf (Bo ((L.take j).flatMap pv) I1 fun v hv=>?_) ?_⟩
  ·obtain ⟨p,hp,hv⟩:=List.mem_flatMap.1 hv
   have h:=hL p (bnx hp)
   exact Ch h.1 h.2 v hv
  ·rw [A0,YS];omega
 have hS:∀ j,j<L.length→f8 ((L.take (j+1)).flatMap pv) (di 48 (bZ e w))=f8 (pv (L.getD j ([],[]))) (f8 ((L.take j).flatMap pv) (di 48 (bZ e w))):=fun j hj=>by
  rw [YO hj,List.flatMap_append,qq,YH,YR hj]
  simp
 have hok:∀ j,j≤L.length→uQ (f8 ((L.take j).flatMap pv) (di 48 (bZ e w))):=fun j hj=>by
  obtain ⟨r',h⟩:=hG j hj
  exact gv h O
 have hf:∀ j,j<L.length→AC gs Tryz.prog 98 [ii n (f8 ((L.take j).flatMap pv) (di 48 (bZ e w)))] [.op 0 (some n) 0,CM (L.getD j ([],[]))] (fun r H'=>r=.c (.tuple #[])∧H'=[ii n (f8 ((L.take (j+1)).flatMap pv) (di 48 (bZ e w)))]):=fun j hj=>by
  obtain ⟨r',h⟩:=hG j O
  have hm:L.getD j ([],[]) ∈ L:=by
   rw [YH,YR hj]
   exact ZS _
  rw [hS j hj]
  exact QY n h O _ (hL _ hm).1 (hL _ hm).2
 have hR:=LC (gs:=gs) (f:=98) (by kernel_rfl) n 48 (bZ e w) L (fun j=>f8 ((L.take j).flatMap pv) (di 48 (bZ e w))) (gv I0 O) rfl hok O hf
 rw [Za] at hR
 refine aj 17 Tryz.func41 fun al w0 F0 St0=>?_;refine dP ?_
 refine au (ff 3 fun p1=>?_)
 refine U 65 ?_;refine gw (bq 3) ?_
 refine au (ar hp ?_)
 refine U 1165119009001 ?_
 refine aq (aQ 0 (sJ n w e) ?_)
 refine U 112005 ?_
 refine aq (aQ 0 hR ?_)
 refine U 5 ?_
 exact bV (.inr rfl) _ [_] [0] jD rfl (cM rfl) ⟨rfl,rfl⟩
theorem Rg (n:Nat) {i:Nat} {r:R8} {w:W8} (hI:gP i r w) (hi:i≤800) (s:S3):AC gs Tryz.prog 41 [ii n w] [.op 0 (some n) 0,kh s] (fun r H'=>r=.c (.tuple #[])∧H'=[ii n (x7 s w)]):=by
 have hp:=zh (gs:=gs) s
 by_cases hr:bW s=true
 ·rw [YF hr,YF hr] at hp
  obtain ⟨h1,h2⟩:=jL hr
  have h:=Gt n hI hi s _ _ hp (fun p hp=>by have:=h1 p hp;omega) O
  have e:x7 s w=dN (f8 ((bX s).flatMap pv) (di 48 (bZ 0 w))):=by
   unfold x7
   rw [YF hr,rE]
   show f8 ((bX s).flatMap pv++[w2]) (mr (w1 48) w)=_
   rw [sP,qq]
   exact Aa _
  rw [e]
  exact h
 ·rw [YE hr,YE hr] at hp
  have h:=Gt n hI hi s _ _ hp (fun p hp=>by cases hp) jD
  have hk:(bZ 9 w).k≠0:=by
   unfold bZ
   split
   ·show (9:Nat)≠0;decide
   ·assumption
  have e:x7 s w=dN (f8 (([]:List P2).flatMap pv) (di 48 (bZ 9 w))):=by
   unfold x7
   rw [YE hr]
   show _=dN (di 48 (bZ 9 w))
   rw [← sP,← Aa,DQ hk,DQ hk]
  rw [e]
  exact h
def Xj:R8:=⟨[],[],0⟩
theorem UO:gP 0 Xj SN:=NK

theorem Qm {gs:List Nat} [gQ gs] {f:FuncId} (hc:bA Tryz.prog f=true) (n:Nat) (l:YD) (k:Nat) (tag most:Int) {sp:nv P2} (ok:lU sp) (hl:0<l.length∧l.length≤100000) (hb:cp l≤100000) (hf:∀ l k,0<l.length∧l.length≤200000→cp l≤100000→bN l k=true→AC gs Tryz.prog f [el n l k] [.op 0 (some n) 0] (fun r H'=>r=CM (sp l k).2∧H'=[el n (sp l k).1.1 (sp l k).1.2])) :
  AC gs Tryz.prog 117 [el n l k] [.op 0 (some n) 0,.c (.int .i64 tag),.c (.int .i64 most),.fn f 0 fun _=>.top]
   (fun r H'=>r=je (if (co sp (ah tag l k) (ae tag l k).k most).2=0 then (aD sp (ah tag l k) (ae tag l k).k (jG sp (ah tag l k) (ae tag l k).k most)).2 else [])∧H'=[el n (co sp (ah tag l k) (ae tag l k).k most).1 (co sp (ah tag l k) (ae tag l k).k most).2]):=by
 have he:=f7 (t:=tag) (l:=l) (k:=k) hl.1
 have hle:l.length≤(ah tag l k).length∧(ah tag l k).length≤l.length+1:=by
  by_cases h:(ae tag l k).k=0
  ·have:=he.2.2.2.1 h;omega
  ·have:=he.2.2.2.2.1 h;omega
 have hsm:dT (ah tag l k) (ae tag l k).k≤100001:=by
  have h0:dT l k≤100001:=by unfold dT;split <;> omega
  exact Zd he.2.1 h0
 have hse:cp (ah tag l k)≤100000:=by
  have h1:=he.2.1
  have h2:=he.2.2.1
  have h3:=he.1
  by_cases hk:k=0
  ·have h4:=h2 hk
   unfold dT at h4
   rw [YF hk] at h4
   split at h4 <;> omega
  ·rw [(h3 hk).1];exact hb
 have hnl:=vf l
 generalize hl0:ah tag l k=l0 at *
 generalize hk0:(ae tag l k).k=k0 at *
 have hso:=fun j=>nD sp l0 k0 j
 have hbd:=lF (sp:=sp) (k0:=k0) (most:=most) ok (show 0<l0.length by omega)
 refine aj 36 Tryz.func117 fun al w0 F0 St0=>?_;refine U 116516516 ?_
 refine aq (aQ 0 (px n l k tag O O) ?_)
 refine U 2075 ?_
 rw [hl0,hk0]
 refine jE (mj 9 2 (fV 2 fX ([],[]) []) rfl) ?_;refine ax (α:=Nat×Option Nat) [9,13,14,15,16,17,18,19,20,21,22,23,24,25,26,27] (fun (j,g)=>[(9,.os 1 g 0 (aD sp l0 k0 j).2.length 2)]) (fun (j,g)=>[el n (aD sp l0 k0 j).1.1 (aD sp l0 k0 j).1.2,(g,.blk ((aD sp l0 k0 j).2.length * 2) (fV 2 fX ([],[]) (aD sp l0 k0 j).2))]) (fun p=>∀ i,i<p.1→ma sp l0 k0 most i=true) (fun p=>dT (aD sp l0 k0 p.1).1.1 (aD sp l0 k0 p.1).1.2) ((0,none)) ?_ (fun _=>rfl) ?_ ?_ ?_
 ·exact fun i hi=>absurd hi (YW i)
 ·exact .cons (cO rfl) .nil
 ·exact aP.refl _
 ·rintro ⟨j,g⟩ (hj:∀ i,i<j→ma sp l0 k0 most i=true)
  obtain ⟨hmj,hlk,hlo,hhi⟩:=hbd j hj
  have hjl:0<(aD sp l0 k0 j).1.1.length∧(aD sp l0 k0 j).1.1.length≤200000:=by omega
  have hjo:=hso j
  have hjm:j≤100001:=by omega
  refine U 167 ?_
  refine aq (aQ 0 (GD n (aD sp l0 k0 j).1.1 (aD sp l0 k0 j).1.2 O) ?_)
  refine U 5 ?_;refine ap (fun h315=>?_) fun h315=>?_
  rotate_left
  ·refine U 84000200020006000 ?_
   first
    |(have hmt:bN (aD sp l0 k0 j).1.1 (aD sp l0 k0 j).1.2=true:=by simpa using h315
      have hkz:=(gH hmt).1
      rw [YF hkz]
      have hstop:jG sp l0 k0 most=j:=lN ok O hj (by unfold ma;rw [hmt,Zr,ZT];omega)
      have hE:el n (bb (aD sp l0 k0 j).1.1 3) (aC (aD sp l0 k0 j).1.1 3)=el n (co sp l0 k0 most).1 (co sp l0 k0 most).2:=by
       unfold co
       rw [hstop]
       dsimp only
       rw [YF hmt])
    |(have hmf:bN (aD sp l0 k0 j).1.1 (aD sp l0 k0 j).1.2=false:=by simpa using h315
      have hstop:jG sp l0 k0 most=j:=lN ok O hj (by unfold ma;rw [hmf];rfl)
      have hE:el n (bb (aD sp l0 k0 j).1.1 (aD sp l0 k0 j).1.2) (aC (aD sp l0 k0 j).1.1 (aD sp l0 k0 j).1.2)=el n (co sp l0 k0 most).1 (co sp l0 k0 most).2:=by
       unfold co
       rw [hstop]
       dsimp only
       rw [YE (by rw [hmf];simp)])
   refine U 16 ?_
   refine aq (aQ 0 (lI n (aD sp l0 k0 j).1.1 _ O) ?_)
   refine U 75 ?_
   dsimp only
   rw [hE,hstop]
   refine bv 0 rfl fun gl=>?_;refine U 5500000501004016 ?_;refine ap (fun h323=>?_) fun h323=>?_
   ·refine jE (cE n (co sp l0 k0 most).2 (co sp l0 k0 most).1 0 2 rfl rfl rfl (cO rfl) I (YG _) (fun _ _=>I)) ?_;refine U 30007000516 ?_
    exact bu (.inl rfl) [0] jD rfl (av rfl (ak rfl)) (m:=je []) (aa.nilS' rfl) ⟨by rw [jK],rfl⟩
   refine U 810 ?_;refine jE (cE n (co sp l0 k0 most).2 (co sp l0 k0 most).1 0 2 rfl rfl rfl (cO rfl) I (YG _) (fun _ _=>I)) ?_;refine U 5116 ?_;refine jE (freeze 1 rfl) ?_;refine jE (kg 8 (fun a b=>fX ((aD sp l0 k0 j).2.getD a ([],[])) b) rfl rfl O (fun a b ha hb=>aa.of_eq (by rw [Nat.zero_add,iy hb]))) ?_;refine U 7000 ?_
   exact bu (.inl rfl) [0] jD rfl (av rfl (ak rfl)) (m:=je (aD sp l0 k0 j).2) I ⟨by rw [jP],rfl⟩
  refine U 521316720810 ?_;refine ap (fun h316=>?_) fun h316=>?_
  rotate_left
  ·refine U 810 ?_
   have hmt0:bN (aD sp l0 k0 j).1.1 (aD sp l0 k0 j).1.2=true:=by simpa using h315
   have hgo:ma sp l0 k0 most j=true:=by unfold ma;rw [hmt0,Zr,YP];omega
   refine U 111200 ?_
   refine aq (pZ (i:=0) rfl rfl (by assumption) rfl (hf (aD sp l0 k0 j).1.1 (aD sp l0 k0 j).1.2 hjl (by have h1:dT (aD sp l0 k0 j).1.1 (aD sp l0 k0 j).1.2=cp (aD sp l0 k0 j).1.1+1:=(by unfold dT;rw [YF (gH hmt0).1]);omega) hmt0) (.cons cP .nil) rfl rfl ?_)
   rintro _ _ ⟨rfl,rfl⟩
   refine ⟨_,rfl,?_⟩
   refine au (aY 2 2 ec fun p3=>?_)
   refine aq (aF (fW 2 fX ([],[])) (l2:=[(sp (aD sp l0 k0 j).1.1 (aD sp l0 k0 j).1.2).2]) rfl rfl rfl rfl (by exact YG _) (fun _ _=>I) (aW rfl (.inl rfl) jD) rfl (fun j hj=>by rcases j with _|_|j <;> first|exact I|(exfalso;simp at hj <;> omega)) Tryz.underlying152 uy uk ec uJ rfl (by (simp;omega)) (by (simp;omega)) (bC rfl rfl) rfl rfl rfl (fun p4=>?_))
   refine U 840051 ?_
   refine aw ((j+1,p4)) ?_ ?_ (h5:=?_) (h7:=?_)
   ·exact fun i hi=>if h:i<j then hj i h else (by obtain rfl:i=j:=(by have hi:i<j+1:=hi;omega);exact hgo)
   ·exact ok.mu _ _ O (by unfold ma at hgo;rw [YK] at hgo;exact hgo.1)
   ·exact .cons (cO rfl) .nil
   ·exact aP.refl _
  refine U 16 ?_;refine jq (cK 2) ?_
  refine aq (aQ 0 (tS n (aD sp l0 k0 j).1.1 (aD sp l0 k0 j).1.2 3) ?_)
  refine U 84000200080000200060005 ?_
  first
   |(have hmt:bN (aD sp l0 k0 j).1.1 (aD sp l0 k0 j).1.2=true:=by simpa using h315
     have hkz:=(gH hmt).1
     rw [YF hkz]
     have hstop:jG sp l0 k0 most=j:=lN ok O hj (by unfold ma;rw [hmt,Zr,ZT];omega)
     have hE:el n (bb (aD sp l0 k0 j).1.1 3) (aC (aD sp l0 k0 j).1.1 3)=el n (co sp l0 k0 most).1 (co sp l0 k0 most).2:=by
      unfold co
      rw [hstop]
      dsimp only
      rw [YF hmt])
   |(have hmf:bN (aD sp l0 k0 j).1.1 (aD sp l0 k0 j).1.2=false:=by simpa using h315
     have hstop:jG sp l0 k0 most=j:=lN ok O hj (by unfold ma;rw [hmf];rfl)
     have hE:el n (bb (aD sp l0 k0 j).1.1 (aD sp l0 k0 j).1.2) (aC (aD sp l0 k0 j).1.1 (aD sp l0 k0 j).1.2)=el n (co sp l0 k0 most).1 (co sp l0 k0 most).2:=by
      unfold co
      rw [hstop]
      dsimp only
      rw [YE (by rw [hmf];simp)])
  refine U 16 ?_
  refine aq (aQ 0 (lI n (aD sp l0 k0 j).1.1 _ O) ?_)
  refine U 75 ?_
  dsimp only
  rw [hE,hstop]
  refine bv 0 rfl fun gl=>?_;refine U 5500000501004016 ?_;refine ap (fun h323=>?_) fun h323=>?_
  ·refine jE (cE n (co sp l0 k0 most).2 (co sp l0 k0 most).1 0 2 rfl rfl rfl (cO rfl) I (YG _) (fun _ _=>I)) ?_;refine U 30007000516 ?_
   exact bu (.inl rfl) [0] jD rfl (av rfl (ak rfl)) (m:=je []) (aa.nilS' rfl) ⟨by rw [jK],rfl⟩
  refine U 810 ?_;refine jE (cE n (co sp l0 k0 most).2 (co sp l0 k0 most).1 0 2 rfl rfl rfl (cO rfl) I (YG _) (fun _ _=>I)) ?_;refine U 5116 ?_;refine jE (freeze 1 rfl) ?_;refine jE (kg 8 (fun a b=>fX ((aD sp l0 k0 j).2.getD a ([],[])) b) rfl rfl O (fun a b ha hb=>aa.of_eq (by rw [Nat.zero_add,iy hb]))) ?_;refine U 7000 ?_
  exact bu (.inl rfl) [0] jD rfl (av rfl (ak rfl)) (m:=je (aD sp l0 k0 j).2) I ⟨by rw [jP],rfl⟩
theorem Q6 {gs:List Nat} [gQ gs] (n:Nat) (l:YD) (k:Nat) (hl:0<l.length∧l.length≤1000000) (hb:(aB l).length≤10000000):AC gs Tryz.prog 170 [el n l k] [.op 0 (some n) 0] (fun r H'=>r=an (ac aO l k).v.t∧H'=[el n (ac aO l k).l (ac aO l k).k]):=by
 have h:=Mw (gs:=gs) n l k hl hb
 rw [rY vT [] rfl (t:=6) (f:=ee) jD jD jD (by funext b;rfl) rfl]
 exact h
theorem Cc {gs:List Nat} [gQ gs] [qI gs] (n:Nat) (l:YD) (k:Nat) (hl:0<l.length∧l.length≤1000000) (hb:(aB l).length≤10000000):AC gs Tryz.prog 64 [el n l k] [.op 0 (some n) 0,.c (.int .i64 64)] (fun r H'=>r=an (ac aT l k).v.t∧H'=[el n (ac aT l k).l (ac aT l k).k]):=by
 have h:=Hw (gs:=gs) n l k 64 hl hb
 rw [rY vT [] rfl (t:=12) (f:=fun b=>(if ay b 64=0 then b else [],ay b 64)) jD jD jD (by funext b;rfl) rfl]
 exact h
theorem wQ {l:YD} {k B:Nat} (h:dT l k≤B):cp l≤B:=by unfold dT at h;omega
theorem ka (a:AA) {l:YD} {k m B:Nat} (hl:0<l.length∧l.length≤m) (hb:dT l k≤B) (h2:a.kind≠2):(0<(ac a l k).l.length∧(ac a l k).l.length≤m+1)∧dT (ac a l k).l (ac a l k).k≤B:=by
 obtain ⟨a1,a2,a3,a4,a5,a6,a7⟩:=gr a (l:=l) (k:=k) hl.1
 refine ⟨?_,by omega⟩
 by_cases h1:a.kind=1
 ·obtain ⟨a41,a42⟩:=a4 h1
  by_cases h:(ac a l k).k=0
  ·have:=a41 h;omega
  ·have:=a42 h;omega
 ·have:=a6 h1 h2;omega
theorem dC {l:YD} {k B:Nat} (h:dT l k≤B):(aB l).length≤B:=Zd (vf l) (wQ h)
theorem MJ {gs:List Nat} [gQ gs] [qI gs] (n:Nat) (l:YD) (k:Nat) (hl:0<l.length∧l.length≤200000) (hb:cp l≤100000):AC gs Tryz.prog 118 [el n l k] [.op 0 (some n) 0] (fun r H'=>r=CM (am l k).2∧H'=[el n (am l k).1.1 (am l k).1.2]):=by
 have m0:dT l k≤100001:=by unfold dT;split <;> omega
 obtain ⟨f1,f2⟩:=gG aL rfl l k
 obtain ⟨l1,m1⟩:=ka aL hl m0 jD
 obtain ⟨l2,m2⟩:=ka aO l1 m1 jD
 obtain ⟨l3,m3⟩:=ka aT l2 m2 jD
 obtain ⟨f3,f4⟩:=gF aE rfl (ac aT (ac aO (ac aL l k).l (ac aL l k).k).l (ac aO (ac aL l k).l (ac aL l k).k).k).l (ac aT (ac aO (ac aL l k).l (ac aL l k).k).l (ac aO (ac aL l k).l (ac aL l k).k).k).k
 have n0:=dC m0
 have n1:=dC m1
 have n2:=dC m2
 have n3:=dC m3
 have hE:AC gs Tryz.prog 57 [el n l k] [.op 0 (some n) 0,.c (.int .i64 48)] (fun r H'=>r=.c (.bool (ae 48 l k).is)∧H'=[el n (ac aL l k).l (ac aL l k).k]):=by
  rw [f1,f2]
  exact px n l k 48 O O
 have hL:=lI (gs:=gs) n (ac aT (ac aO (ac aL l k).l (ac aL l k).k).l (ac aO (ac aL l k).l (ac aL l k).k).k).l (ac aT (ac aO (ac aL l k).l (ac aL l k).k).l (ac aO (ac aL l k).l (ac aL l k).k).k).k O
 rw [← f3,← f4] at hL
 refine aj 14 Tryz.func118 fun al w0 F0 St0=>?_;refine dP ?_
 refine au (cl (n:=2) ec rfl fun p1=>?_)
 refine U 165 ?_
 refine aq (aQ 0 hE ?_)
 refine U 165 ?_
 refine aq (aQ 0 (Q6 n (ac aL l k).l (ac aL l k).k O O) ?_)
 refine U 1 ?_
 refine aq (aQ 0 (Cc n (ac aO (ac aL l k).l (ac aL l k).k).l (ac aO (ac aL l k).l (ac aL l k).k).k O O) ?_)
 refine jq (ai (n:=2) rfl ec qL rfl rfl) ?_
 refine au (cl (n:=2) ec rfl fun p5=>?_)
 refine aq (aA 2 ?_)
 refine U 165 ?_
 refine aq (aQ 0 hL ?_)
 refine U 65 ?_;refine gw (bq 2) ?_
 refine aq (aA 2 ?_)
 refine U 70005 ?_
 exact aJ (.inl rfl) rfl (av rfl (bD 2)) iD
theorem Rh (n:Nat) (l:YD) (k:Nat) (hl:0<l.length∧l.length≤100000) (hb:cp l≤100000):AC gs Tryz.prog 58 [el n l k] [.op 0 (some n) 0] (fun r H'=>r=kh (eG l k).2∧H'=[el n (eG l k).1.1 (eG l k).1.2]):=by
 have hR:=Qm (gs:=gs) (f:=118) (by kernel_rfl) n l k 48 8 gu hl hb (fun l k h1 h2 _=>MJ n l k h1 h2)
 have hlen:(kJ l k).length≤1000000:=by
  have h1:=nV (sp:=am) (l0:=ah 48 l k) (k0:=(ae 48 l k).k) (most:=8) gu (by
   obtain ⟨_,_,_,e4,e5,_⟩:=f7 (t:=48) (l:=l) (k:=k) hl.1
   by_cases h0:(ae 48 l k).k=0
   ·rw [e4 h0];omega
   ·rw [e5 h0];omega)
  have h2:=nD am (ah 48 l k) (ae 48 l k).k (jG am (ah 48 l k) (ae 48 l k).k 8)
  have h3:(kJ l k).length=jG am (ah 48 l k) (ae 48 l k).k 8:=h2
  rw [h3]
  rcases arx (jG am (ah 48 l k) (ae 48 l k).k 8) with hz|hz
  ·omega
  ·have hg:=h1.1 (jG am (ah 48 l k) (ae 48 l k).k 8-1) O
   unfold ma at hg
   rw [YK,YP] at hg
   omega
 have hR':AC gs Tryz.prog 117 [el n l k] [.op 0 (some n) 0,.c (.int .i64 48),.c (.int .i64 8),.fn 118 0 fun _=>.top] (fun r H'=>r=je (if (eM l k).2=0 then kJ l k else [])∧H'=[el n (eM l k).1 (eM l k).2]):=hR
 have hO:=Uy (gs:=gs) (kJ l k) hlen
 refine aj 21 Tryz.func58 fun al w0 F0 St0=>?_;refine dP ?_
 refine au (cl (n:=3) oR rfl fun p1=>?_)
 refine U 165 ?_
 refine aq (aQ 0 (hR') ?_)
 refine U 16751 ?_
 refine aq (aQ 0 (Ov n (eM l k).1 (eM l k).2) ?_)
 refine U 5500000 ?_;refine ap (fun h117=>?_) fun h117=>?_
 ·refine dP ?_;refine jq (ai (n:=3) rfl oR CJ rfl rfl) ?_
  refine aq (aA 3 ?_)
  refine U 300070005 ?_
  rw [show eG l k=(eM l k,dw) by unfold eG;rw [jP]]
  exact aJ (.inl rfl) rfl (av rfl (bD 3)) iD
 refine U 810 ?_
 have hz:(eM l k).2=0:=by omega
 rw [YF hz]
 refine U 16 ?_
 refine au (ar hO ?_)
 refine U 9009001 ?_
 refine au (cl (n:=3) oR rfl fun p4=>?_)
 refine aq (aA 3 ?_)
 refine U 11651 ?_
 refine aq (aQ 0 (tS n (eM l k).1 (eM l k).2 (lr (kJ l k)).2) ?_)
 refine U 65 ?_;refine gw (bq 3) ?_
 refine aq (aA 3 ?_)
 refine U 70005 ?_
 rw [YF hz,show eG l k=(((eM l k).1,(lr (kJ l k)).2),(lr (kJ l k)).1) by unfold eG;rw [jK]]
 exact aJ (.inl rfl) rfl (av rfl (bD 3)) iD
theorem OB {l:YD} {k:Nat} (h:jk l k=0):k=0:=by
 unfold jk at h
 split at h
 ·rename_i h0;exact absurd h h0
 ·omega
theorem N4 (l:YD) (k:Nat) (hl:0<l.length):0<(eG l k).1.1.length∧(eG l k).1.1.length≤l.length+17:=by
 have hE:(eG l k).1.1=(eM l k).1:=by unfold eG;split <;> rfl
 have he:0<(ah 48 l k).length∧(ah 48 l k).length≤l.length+1:=by
  obtain ⟨_,_,_,e4,e5,_⟩:=f7 (t:=48) (l:=l) (k:=k) hl
  by_cases h0:(ae 48 l k).k=0
  ·rw [e4 h0];omega
  ·rw [e5 h0];omega
 have hs:=nV (sp:=am) (l0:=ah 48 l k) (k0:=(ae 48 l k).k) (most:=8) gu he.1
 have hb:=lF (sp:=am) (l0:=ah 48 l k) (k0:=(ae 48 l k).k) (most:=8) gu he.1 _ hs.1
 have lv:∀ (l':YD) (k':Nat),0<l'.length→0<(bb l' k').length∧(bb l' k').length≤l'.length:=fun l' k' h=>by
  obtain ⟨_,_,f3,f4⟩:=lH (l:=l') (k:=k') h
  by_cases h0:aC l' k'=0
  ·have:=f3 h0;omega
  ·rw [f4 h0];omega
 rw [hE]
 unfold eM co
 dsimp only
 split
 ·have:=lv (aD am (ah 48 l k) (ae 48 l k).k (jG am (ah 48 l k) (ae 48 l k).k 8)).1.1 3 O
  dsimp only
  omega
 ·have:=lv (aD am (ah 48 l k) (ae 48 l k).k (jG am (ah 48 l k) (ae 48 l k).k 8)).1.1 (aD am (ah 48 l k) (ae 48 l k).k (jG am (ah 48 l k) (ae 48 l k).k 8)).1.2 O
  dsimp only
  omega
end
section
open Go.RowKit Cal
structure Fd where
 call:Int
 least:Int
 most:Int
structure V4 where
 n:Int
 t:Z
 b:Z
 who:S3
def V4.z:V4:=⟨0,[],[],dw⟩
def u6 (f:Fd):Prop:=f.call=0∨((f.call=3∨f.call=4)∧-9223372036854775808≤f.least∧f.most≤9223372036854775807)∨(f.call=6∧0≤f.least∧f.most≤4096)∨(f.call=7∧f.most=24)∨f.call=9
def gg (f:Fd) (v:V4):Prop:=(f.call=0∧v=⟨0,[],[],v.who⟩∧bW v.who=true)∨((f.call=3∨f.call=4)∧v=⟨v.n,[],[],dw⟩∧f.least≤v.n∧v.n≤f.most) ∨
 (f.call=6∧v=⟨0,[],v.b,dw⟩∧f.least≤(v.b.length:Nat)∧(v.b.length:Nat)≤f.most)∨(f.call=7∧v=⟨0,v.t,[],dw⟩∧ay v.t 24=0)∨(f.call=9∧v=⟨v.n,[],[],dw⟩∧Fl v.n)
def qF (f:Fd) (v:V4):VV:=if f.call=7 then ⟨7,24,false,[],v.t⟩ else ⟨f.call,v.n,false,v.b,[]⟩
def Kn (f:Fd) (v:V4):Int×Z:=if f.call=0 then V3 v.who else ((bp (qF f v)).1,(bp (qF f v)).2.1)
def fR (f:Fd) (v:V4):Z:=ny (Kn f v)
def mh (f:Fd) (v:V4) (w:W8):W8:=if f.call=0 then x7 v.who w else mr (qF f v) w
def wg (f:Fd) (v:V4) (r:R8):R8:=if f.call=0 then ED v.who r else oI (qF f v) r
def nj (f:Fd):AA:=⟨f.call,0,f.least,f.most⟩
def cQ (f:Fd):nv V4:=fun l k=>if f.call=0 then ((eG l k).1,⟨0,[],[],(eG l k).2⟩) else (((ac (nj f) l k).l,(ac (nj f) l k).k),⟨(ac (nj f) l k).v.n,(ac (nj f) l k).v.t,(ac (nj f) l k).v.b,dw⟩)
theorem nX {f:Fd} {v:V4} (ho:u6 f) (h:gg f v) (h0:f.call≠0):(3≤f.call∧f.call≤10)∧(qF f v).kind=f.call∧(bp (qF f v)).1=bR (nj f)∧(bp (qF f v)).2.2=0∧(bp (qF f v)).2.1.length≤4096∧saidM (nj f) (bp (qF f v)).2.1=(⟨0,v.n,false,v.b,v.t⟩,0) ∧
  (-9223372036854775808≤(qF f v).n∧(qF f v).n≤9223372036854775807)∧(qF f v).t.length≤300∧(qF f v).b.length≤4096∧v.who=dw:=by
 obtain ⟨c,least,most⟩:=f
 obtain ⟨n,t,b,who⟩:=v
 unfold u6 gg at *
 dsimp only at ho h h0
 rcases h with h|⟨hc,hv,h1,h2⟩|⟨hc,hv,h1,h2⟩|⟨hc,hv,h1⟩|⟨hc,hv,h1⟩
 ·exact absurd h.1 h0
 ·obtain ⟨_,rfl,rfl,rfl⟩:=(V4.mk.injEq _ _ _ _ _ _ _ _).mp hv
  have hb:-9223372036854775808≤n∧n≤9223372036854775807:=by omega
  have hg:=Md hb.1 hb.2
  have hl:=(wD n hb.1 hb.2).2
  have hr:aX (kz n) least most=(n,0):=by
   unfold aX
   rw [hg,YE (by simp),YE (by dsimp only;omega)]
  rcases hc with rfl|rfl
  ·have e:bp (qF ⟨3,least,most⟩ ⟨n,[],[],dw⟩)=(2,kz n,0):=rfl
   refine ⟨by constructor <;> (dsimp only;omega),rfl,rfl,rfl,by rw [e];dsimp only;omega,?_,hb,by simp [qF],by simp [qF],rfl⟩
   rw [e]
   show (vN (aX (kz n) least most).1,(aX (kz n) least most).2)=_
   rw [hr];rfl
  ·have e:bp (qF ⟨4,least,most⟩ ⟨n,[],[],dw⟩)=(10,kz n,0):=rfl
   refine ⟨by constructor <;> (dsimp only;omega),rfl,rfl,rfl,by rw [e];dsimp only;omega,?_,hb,by simp [qF],by simp [qF],rfl⟩
   rw [e]
   show (vN (aX (kz n) least most).1,(aX (kz n) least most).2)=_
   rw [hr];rfl
 ·obtain ⟨rfl,rfl,_,rfl⟩:=(V4.mk.injEq _ _ _ _ _ _ _ _).mp hv
  subst hc
  have e:bp (qF ⟨6,least,most⟩ ⟨0,[],b,dw⟩)=(4,b,0):=rfl
  have hl:b.length≤4096:=by omega
  refine ⟨by constructor <;> (dsimp only;omega),rfl,rfl,rfl,by rw [e];exact hl,?_,by show (-9223372036854775808:Int)≤0∧(0:Int)≤9223372036854775807;decide,by simp [qF],hl,rfl⟩
  rw [e]
  show (vB (iW least most b).1,(iW least most b).2)=_
  unfold iW
  rw [jK,jK]
  rfl
 ·obtain ⟨rfl,_,rfl,rfl⟩:=(V4.mk.injEq _ _ _ _ _ _ _ _).mp hv
  subst hc
  have hm:most=24:=by omega
  subst hm
  have hl:=gZ h1
  have e:bp (qF ⟨7,least,24⟩ ⟨0,t,[],dw⟩)=(12,t,0):=by
   show ((12:Int),(if ay t 24=0 then t else []),ay t 24)=_
   rw [h1,YF rfl]
  refine ⟨by constructor <;> (dsimp only;omega),rfl,by rw [e];rfl,by rw [e],by rw [e];dsimp only;omega,?_,by show (-9223372036854775808:Int)≤24∧(24:Int)≤9223372036854775807;decide,by show t.length≤300;omega,by simp [qF],rfl⟩
  rw [e]
  show (vT (if ay t 24=0 then t else []),ay t 24)=_
  rw [h1,YF rfl];rfl
 ·obtain ⟨_,rfl,rfl,rfl⟩:=(V4.mk.injEq _ _ _ _ _ _ _ _).mp hv
  subst hc
  have ho6:Gz n=ET n:=by unfold Gz;rw [YF h1]
  have hq:=zd h1
  have e:bp (qF ⟨9,least,most⟩ ⟨n,[],[],dw⟩)=(24,fJ (Gz n),0):=by
   show ((24:Int),(if Fl n then fJ (Gz n) else []),Xa n)=_
   unfold Xa
   rw [YF h1,YF h1]
  refine ⟨by constructor <;> (dsimp only;omega),rfl,by rw [e];rfl,by rw [e],by rw [e];exact YU rfl,?_,by have h1':=h1;unfold Fl at h1';show _≤n∧n≤_;omega,by simp [qF],by simp [qF],rfl⟩
  rw [e]
  show (vN (uZ (fJ (Gz n))),yf (fJ (Gz n)))=_
  rw [ho6,(Dp hq.1).1,(Dp hq.1).2,hq.2];rfl
theorem sN {f:Fd} {v:V4} (ho:u6 f) (h:gg f v) (h0:f.call≠0):fR f v=bL (bR (nj f)) (bp (qF f v)).2.1:=by
 unfold fR Kn ny
 rw [YE h0]
 dsimp only
 rw [(nX ho h h0).2.2.1]
theorem sO {f:Fd} {v:V4} (h0:f.call=0):fR f v=xU v.who:=by
 unfold fR Kn
 rw [YF h0];rfl
theorem sx {f:Fd} {v:V4} (h:gg f v) (h0:f.call=0):v=⟨0,[],[],v.who⟩∧bW v.who=true:=by
 unfold gg at h
 rcases h with h|h|h|h|h
 ·exact h.2
 all_goals (exfalso;omega)
theorem qk {f:Fd} {v:V4} (ho:u6 f) (h:gg f v) (ls:YD) (r:Z):cQ f (ls++[fR f v++r]) 0=((ls++[r],0),v):=by
 unfold cQ
 by_cases h0:f.call=0
 ·obtain ⟨h1,h2⟩:=sx h h0
  rw [YF h0,sO h0,N5 h2]
  dsimp only
  rw [← h1]
 ·obtain ⟨b1,b2,b3,b4,b5,b6,b7,b8,b9,b10⟩:=nX ho h h0
  have hr:=pf (nj f) ls (b:=(bp (qF f v)).2.1) r b1 O (by rw [b6])
  rw [YE h0,sN ho h h0,hr,b6]
  obtain ⟨n,t,b,who⟩:=v
  dsimp only at b10 ⊢
  rw [b10]
theorem iG {f:Fd} (ho:u6 f) {ls:YD} {x:Z} {k:Nat} (h:(cQ f (ls++[x]) k).1.2=0):k=0∧∃ v r,gg f v∧x=fR f v++r∧cQ f (ls++[x]) k=((ls++[r],0),v):=by
 unfold cQ at h ⊢
 by_cases h0:f.call=0
 ·rw [YF h0] at h ⊢
  obtain ⟨h1,s,r,h2,h3,h4⟩:=JJ h
  refine ⟨h1,⟨0,[],[],s⟩,r,.inl ⟨h0,rfl,h2⟩,by rw [h3,sO h0],by rw [h4]⟩
 ·rw [YE h0] at h ⊢
  dsimp only at h
  have ha:3≤(nj f).kind∧(nj f).kind≤10:=by unfold u6 at ho;show 3≤f.call∧f.call≤10;omega
  obtain ⟨h1,b,r,h2,h3,h4,h5⟩:=lp ha h
  have key:∀ v:V4,gg f v→(bp (qF f v)).2.1=b→(saidM (nj f) b).1.n=v.n→(saidM (nj f) b).1.t=v.t→(saidM (nj f) b).1.b=v.b→v.who=dw→k=0∧∃ v r,gg f v∧x=fR f v++r∧(((ac (nj f) (ls++[x]) k).l,(ac (nj f) (ls++[x]) k).k),V4.mk (ac (nj f) (ls++[x]) k).v.n (ac (nj f) (ls++[x]) k).v.t (ac (nj f) (ls++[x]) k).v.b dw)=((ls++[r],0),v):=fun v hg hb hn ht hbb hw=>by
   refine ⟨h1,v,r,hg,by rw [h2,sN ho hg h0,hb],?_⟩
   rw [h5]
   dsimp only
   rw [hn,ht,hbb,← hw]
  obtain ⟨c,least,most⟩:=f
  unfold u6 at ho
  dsimp only at ho h0
  rcases ho with ho|⟨ho,ho1,ho2⟩|⟨ho,ho1,ho2⟩|⟨ho,ho1⟩|ho
  ·exact absurd ho h0
  ·rcases ho with rfl|rfl
   ·obtain ⟨c1,c2,c3,c4,c5⟩:=ur (b:=b) (x:=least) (y:=most) h4
    exact key ⟨(aX b least most).1,[],[],dw⟩ (.inr (.inl ⟨.inl rfl,rfl,by show least≤(aX b least most).1;omega,by show (aX b least most).1≤most;omega⟩)) c1 rfl rfl rfl rfl
   ·obtain ⟨c1,c2,c3,c4,c5⟩:=ur (b:=b) (x:=least) (y:=most) h4
    exact key ⟨(aX b least most).1,[],[],dw⟩ (.inr (.inl ⟨.inr rfl,rfl,by show least≤(aX b least most).1;omega,by show (aX b least most).1≤most;omega⟩)) c1 rfl rfl rfl rfl
  ·subst ho
   have h4':(iW least most b).2=0:=h4
   have hm:(saidM ⟨6,0,least,most⟩ b).1=vB (iW least most b).1:=rfl
   unfold iW at h4' hm
   by_cases e1:(b.length:Int)<least
   ·rw [YF e1] at h4';cases h4'
   ·by_cases e2:most<(b.length:Int)
    ·rw [YE e1,YF e2] at h4';cases h4'
    ·rw [YE e1,YE e2] at hm
     refine key ⟨0,[],b,dw⟩ (.inr (.inr (.inl ⟨rfl,rfl,by show least≤((b.length:Nat):Int);omega,by show ((b.length:Nat):Int)≤most;omega⟩))) rfl ?_ ?_ ?_ rfl <;> (show _=_;rw [show (nj ⟨6,least,most⟩)=⟨6,0,least,most⟩ from rfl,hm];rfl)
  ·subst ho
   subst ho1
   have h4':ay b 24=0:=h4
   have hm:(saidM ⟨7,0,least,24⟩ b).1=vT b:=by show vT (if ay b 24=0 then b else [])=_;rw [YF h4']
   refine key ⟨0,b,[],dw⟩ (.inr (.inr (.inr (.inl ⟨rfl,rfl,h4'⟩)))) ?_ ?_ ?_ ?_ rfl
   ·show (if ay b 24=0 then b else [])=b;rw [YF h4']
   all_goals (rw [show (nj ⟨7,least,24⟩)=⟨7,0,least,24⟩ from rfl,hm];rfl)
  ·subst ho
   have h4':yf b=0:=h4
   obtain ⟨c1,c2⟩:=Ba h4'
   refine key ⟨uZ b,[],[],dw⟩ (.inr (.inr (.inr (.inr ⟨rfl,rfl,c2⟩)))) ?_ rfl rfl rfl rfl
   show (if Fl (uZ b) then fJ (Gz (uZ b)) else [])=b
   rw [YF c2,c1]
theorem JT (f:Fd) (ho:u6 f) {l:YD} {k:Nat} (hl:0<l.length):(0<(cQ f l k).1.1.length∧(cQ f l k).1.1.length≤l.length+17)∧((cQ f l k).1.2=0→k=0):=by
 obtain ⟨ls,x,rfl⟩:∃ ls x,l=ls++[x]:=⟨l.dropLast,l.getLast (Zh.1 hl),(Z7 _).symm⟩
 refine ⟨?_,fun h=>(iG ho h).1⟩
 unfold cQ
 by_cases h0:f.call=0
 ·rw [YF h0];exact N4 _ _ hl
 ·rw [YE h0]
  have hk:(nj f).kind=f.call:=rfl
  obtain ⟨_,_,_,_,_,h6,_⟩:=gr (nj f) (l:=ls++[x]) (k:=k) hl
  have:=h6 (by unfold u6 at ho;rw [hk];omega) (by unfold u6 at ho;rw [hk];omega)
  dsimp only
  omega
theorem lc {f:Fd} {v:V4} (ho:u6 f) (h:gg f v):(fR f v).length≤4110∧0<(fR f v).length∧FS 3 (Kn f v):=by
 refine ⟨?_,vu _,?_⟩
 ·by_cases h0:f.call=0
  ·rw [sO h0]
   have:=(u7 (sx h h0).2).2
   omega
  ·rw [sN ho h h0]
   have h1:=ez (bR (nj f)) (bp (qF f v)).2.1
   have h2:=(nX ho h h0).2.2.2.2.1
   omega
 ·by_cases h0:f.call=0
  ·have h2:=(sx h h0).2
   obtain ⟨g1,g2⟩:=jL h2
   obtain ⟨l1,l2⟩:=u7 h2
   unfold Kn
   rw [YF h0]
   refine m9 (d:=2) jD jD jD (fun x hx=>?_) O
   obtain ⟨p,hp,rfl⟩:=aBx.1 hx
   obtain ⟨h3,h4,h5⟩:=g1 p hp
   obtain ⟨m1,m2,m3⟩:=pV h3 O
   refine m9 (d:=1) jD jD jD (fun x hx=>?_) O
   simp only [kD,Zg,Zo,or_false] at hx
   rcases hx with rfl|rfl
   ·exact lu jD jD O
   ·exact lu jD jD O
  ·obtain ⟨b1,b2,b3,b4,b5,_⟩:=nX ho h h0
   have ht:=V0 (v:=qF f v) (by rw [b2];exact b1)
   unfold Kn
   rw [YE h0]
   exact (lu ht.1 ht.2.1 O).mono jD
theorem Me {f:Fd} {v:V4} (ho:u6 f) (h:gg f v) {w:W8} (hk:w.k=0) (hf:w.fr.length<15):mh f v w=de (fR f v) w:=by
 unfold mh
 by_cases h0:f.call=0
 ·rw [YF h0,sO h0,QX (sx h h0).2 hk hf]
 ·obtain ⟨b1,b2,b3,b4,b5,_⟩:=nX ho h h0
  have ht:=V0 (v:=qF f v) (by rw [b2];exact b1)
  rw [YE h0,sN ho h h0,BC (by rw [b2];exact b1),b4,rg hk ht.1 O,b3]
theorem tG {f:Fd} {v:V4} (ho:u6 f) (h:gg f v) {i:Nat} {r:R8} {w:W8} (hI:gP i r w):gP (i+14) (wg f v r) (mh f v w):=by
 unfold wg mh
 by_cases h0:f.call=0
 ·rw [YF h0,YF h0]
  exact NM hI v.who
 ·obtain ⟨b1,b2,b3,b4,b5,b6,b7,b8,b9,b10⟩:=nX ho h h0
  rw [YE h0,YE h0]
  exact RG hI b7 b8 (by rw [b2];exact b1) jD O
end
def iu:Z:=[48,49,50,51,52,53,54,55,56,57,97,98,99,100,101,102]
def dV (l:Z):Bool:=decide (l.length=32) && l.all fun c=>decide (0≤Lib.indexByte iu c)
theorem qh {l:Z} {i:Nat} (hi:i<l.length) (h:Lib.indexByte iu (l.getD i 0)<0):dV l=false:=by
 cases e:dV l with
 | false=>rfl
 | true =>
  simp only [dV,YK,Y8,YP] at e
  have:=e.2 (l.getD i 0) (by simp [List.getD,hi])
  omega
theorem vp (c:UInt8):Lib.indexByte iu c<16:=by
 unfold Lib.indexByte iu
 simp only [Lib.indexByte]
 repeat (first|omega|split)
def Ci (c:UInt8):Int:=IntKind.u8.wrap (((c.toNat:Nat):Int) * 2 ^ (4:Int).toNat)
def Ur (a b:Int):Int:=IntKind.u8.wrap (BitVec.ofInt (IntKind.bits .u8) a ||| BitVec.ofInt (IntKind.bits .u8) b).toNat
def Bb (c:UInt8) (n:Int):UInt8:=UInt8.ofNat (Ur (Ci c) n).toNat
theorem C2 (c:UInt8) (n:Int):Ur (Ci c) n=((Bb c n).toNat:Nat):=by
 have h:0≤Ur (Ci c) n∧Ur (Ci c) n<256:=by unfold Ur;rw [IntKind.wrap_u8];omega
 unfold Bb
 rw [YY]
 omega
theorem yq (j:Nat):(Value.int .u8 0).cells[j % (Value.int .u8 0).cells.size]! = .int .u8 0:=by
 have:j % (Value.int .u8 0).cells.size=0:=bpx j
 rw [this];rfl
theorem Kr (j:Nat):aa (.c (.int .u8 0)) (bc (List.replicate 16 0) j):=aa.of_eq (by
 have:(List.replicate 16 (0:UInt8)).getD j 0=0:=by rw [YH,ZL];split <;> rfl
 unfold bc
 rw [this];rfl)
theorem vM {X:Z} {o:Nat} {c:UInt8} {z:Int} (hz:z=(c.toNat:Nat)) (ho:o<X.length) (j:Nat):aa (gT (bc X) o (List.map CV.c (Value.int .u8 z).cells.toList) j) (bc (X.set o c) j):=by
 rw [dE,show (List.map CV.c (Value.int .u8 z).cells.toList).length=1 from rfl]
 by_cases e:j=o
 ·subst e
  rw [jP,aNx]
  have:(X.set j c).getD j 0=c:=by simp [List.getD,ho]
  unfold bc
  rw [this,← hz]
  exact I
 ·rw [jK]
  refine aa.of_eq ?_
  unfold bc
  simp [List.getD,Ne.symm e]
def hx (n:Nat):UInt8:=if n<10 then UInt8.ofNat (48+n) else UInt8.ofNat (87+n)
def hv (c:UInt8):Nat:=(Lib.indexByte iu c).toNat
def yd (c:UInt8):Bool:=decide (0≤Lib.indexByte iu c)
theorem UR:∀ n:Fin 16,(yd (hx n.val)=true∧hv (hx n.val)=n.val):=by decide +kernel
theorem Ti {n:Nat} (h:n<16):yd (hx n)=true∧hv (hx n)=n:=UR ⟨n,h⟩
theorem UT:∀ n:Fin 256,yd (UInt8.ofNat n.val)=true→hv (UInt8.ofNat n.val)<16∧hx (hv (UInt8.ofNat n.val))=UInt8.ofNat n.val:=by decide +kernel
theorem Tk {c:UInt8} (h:yd c=true):hv c<16∧hx (hv c)=c:=by
 have h2:=UT ⟨c.toNat,c.toNat_lt⟩
 have e:UInt8.ofNat (⟨c.toNat,c.toNat_lt⟩:Fin 256).val=c:=aCx
 rw [e] at h2
 exact h2 h
def NU (c:UInt8):Z:=[hx (c.toNat / 16),hx (c.toNat % 16)]
def bg (b:Z):Z:=(b.map NU).flatten
theorem eP (b:Z):(bg b).length=2 * b.length:=by
 induction b with
 | nil=>rfl
 | cons c b ih=>show (NU c++bg b).length=_;rw [YI,ih];simp [NU];omega
theorem Fq (b:Z) (c:UInt8):bg (b++[c])=bg b++[hx (c.toNat / 16),hx (c.toNat % 16)]:=by
 simp [bg,NU]
def bx (a b:UInt8):UInt8:=UInt8.ofNat (16 * hv a+hv b)
def fQ:Z→Z
 | a::b::r=>bx a b::fQ r
 | _=>[]
theorem lP:∀ s:Z,(fQ s).length=s.length / 2
 | []=>rfl
 | [_]=>by simp [fQ]
 | a::b::r=>by
  show (fQ r).length+1=_
  rw [lP r]
  simp only [List.length_cons]
  omega
theorem xg:∀ (s:Z) (j:Nat),j<s.length / 2→(fQ s).getD j 0=bx (s.getD (2 * j) 0) (s.getD (2 * j+1) 0)
 | [],j,h=>absurd h (YW j)
 | [_],j,h=>by simp at h
 | a::b::r,0,h=>rfl
 | a::b::r,j+1,h=>by
  show (fQ r).getD j 0=_
  rw [xg r j (by simp only [List.length_cons] at h;omega)]
  have e1:2 * (j+1)=2 * j+1+1:=by omega
  rw [e1]
  rfl
theorem zK:∀ b:Z,fQ (bg b)=b
 | []=>rfl
 | c::b=>by
  show bx (hx (c.toNat / 16)) (hx (c.toNat % 16))::fQ (bg b)=_
  have:=c.toNat_lt
  rw [zK b]
  unfold bx
  rw [(Ti (show c.toNat / 16<16 by omega)).2,(Ti (show c.toNat % 16<16 by omega)).2,show 16 * (c.toNat / 16)+c.toNat % 16=c.toNat by omega,aCx]
theorem zV:∀ s:Z,s.length % 2=0→s.all yd=true→bg (fQ s)=s
 | [],_,_=>rfl
 | [_],h,_=>by simp at h
 | a::b::r,h,h2=>by
  simp only [Z6,YK] at h2
  obtain ⟨ha,hb,hr⟩:=h2
  obtain ⟨a1,a2⟩:=Tk ha
  obtain ⟨b1,b2⟩:=Tk hb
  show NU (bx a b)++bg (fQ r)=_
  rw [zV r (by simp only [List.length_cons] at h;omega) hr]
  unfold NU bx
  rw [YY,show (16 * hv a+hv b) % 2 ^ 8 / 16=hv a by omega,show (16 * hv a+hv b) % 2 ^ 8 % 16=hv b by omega,a2,b2]
  rfl
theorem AG {X:Z} {k:Nat} {v:UInt8} (j:Nat) (hk:k<X.length):(X.set k v).getD j 0=if j=k then v else X.getD j 0:=by
 by_cases e:j=k
 ·subst e;simp [List.getD,hk]
 ·rw [YE e];simp [List.getD,Ne.symm e]
theorem TT (n j:Nat):(List.replicate n (0:UInt8)).getD j 0=0:=by
 rw [YH,ZL];split <;> rfl
theorem Rl:∀ a n:Fin 16,Bb (UInt8.ofNat a.val) (n.val:Int)=UInt8.ofNat (16 * a.val+n.val):=by decide +kernel
theorem MP {a n:Nat} (ha:a<16) (hn:n<16):Bb (UInt8.ofNat a) (n:Int)=UInt8.ofNat (16 * a+n):=Rl ⟨a,ha⟩ ⟨n,hn⟩
theorem NV {c:UInt8} (h:0≤Lib.indexByte iu c):Lib.indexByte iu c=((hv c:Nat):Int)∧hv c<16:=by
 have:=vp c
 unfold hv
 omega
def yn (l X:Z) (i:Nat):Prop :=
 X.length=l.length / 2∧(∀ j,j<i / 2→X.getD j 0=bx (l.getD (2 * j) 0) (l.getD (2 * j+1) 0))∧(i % 2=1→X.getD (i / 2) 0=UInt8.ofNat (hv (l.getD (i-1) 0)))∧∀ j,(i+1) / 2≤j→X.getD j 0=0
theorem yn.start (l:Z):yn l (List.replicate (l.length / 2) 0) 0 :=
 ⟨avx,fun j hj=>absurd hj (YW j),fun h=>by omega,fun j _=>TT _ j⟩
theorem yn.step {l X:Z} {i:Nat} (h:yn l X i) (hi:i<l.length) (he:l.length % 2=0) (hx:∀ j,j≤i→0≤Lib.indexByte iu (l.getD j 0)):yn l (X.set (i / 2) (Bb (X.getD (i / 2) 0) (Lib.indexByte iu (l.getD i 0)))) (i+1):=by
 obtain ⟨h1,h2,h3,h4⟩:=h
 obtain ⟨n1,n2⟩:=NV (hx i (YG _))
 have hk:i / 2<X.length:=by omega
 rw [n1]
 refine ⟨by rw [ZW,h1],fun j hj=>?_,fun ho=>?_,fun j hj=>?_⟩
 ·rw [AG j hk]
  by_cases e:j=i / 2
  ·rw [YF e]
   have ho:i % 2=1:=by omega
   obtain ⟨m1,m2⟩:=NV (hx (i-1) O)
   rw [h3 ho,MP m2 n2,show 2 * j=i-1 by omega,show i-1+1=i by omega]
   rfl
  ·rw [YE e];exact h2 j O
 ·rw [AG _ hk,jP,h4 (i / 2) O]
  have:=MP (a:=0) O n2
  rw [show i+1-1=i by omega]
  simpa using this
 ·rw [AG j hk,jK]
  exact h4 j O
theorem yn.done {l X:Z} {i:Nat} (h:yn l X i) (hi:i=l.length) (he:l.length % 2=0):X=fQ l:=by
 obtain ⟨h1,h2,h3,h4⟩:=h
 have hl:=lP l
 refine agx O fun j a b=>?_
 have e1:=h2 j O
 have e2:=xg l j O
 rw [← e2] at e1
 simpa [List.getD,a,b] using e1
theorem Sf:∀ c:Fin 256,Lib.indexByte iu (UInt8.ofNat c.val)=if 48≤c.val∧c.val≤57 then (c.val:Int)-48 else if 97≤c.val∧c.val≤102 then (c.val:Int)-97+10 else -1:=by decide +kernel
theorem Vd (c:UInt8):Lib.indexByte iu c=if 48≤c.toNat∧c.toNat≤57 then (c.toNat:Int)-48 else if 97≤c.toNat∧c.toNat≤102 then (c.toNat:Int)-97+10 else -1:=by
 have h:=Sf ⟨c.toNat,c.toNat_lt⟩
 have e:UInt8.ofNat (⟨c.toNat,c.toNat_lt⟩:Fin 256).val=c:=aCx
 rw [e] at h
 exact h
section
open Go.RowKit Cal
structure sW where
 se:Int
 iss:Z
 ge:Int
 who:S3
 nb:Int
 na:Int
 ky:Z
 us:Int
 al:YD
def Ei (l:YD) (j:Nat):Bool:=kA (l.getD j []) && (decide (j=0) || Op.bytesLess (l.getD (j-1) []) (l.getD j []))
def i5 (l:YD):Nat→Bool
 | 0=>true
 | i+1=>i5 l i && Ei l i
def sT (l:YD):Bool:=decide (l.length≤8) && i5 l l.length
def UP (x n y:Int):Bool:=decide (x≤n) && decide (n≤y)
theorem td {l:YD}:∀ {i:Nat},i5 l i=true→∀ j,j<i→Ei l j=true
 | 0,_,j,hj=>absurd hj (YW j)
 | i+1,h,j,hj=>by
  unfold i5 at h
  rw [YK] at h
  by_cases e:j=i
  ·rw [e];exact h.2
  ·exact td h.1 j O
theorem wo {l:YD} {j:Nat} (hj:Ei l j=false):∀ {i:Nat},j<i→i5 l i=false
 | 0,h=>absurd h (YW j)
 | i+1,h=>by
  unfold i5
  by_cases e:j=i
  ·rw [← e,hj,ZJ]
  ·rw [wo hj (show j<i by omega),bcx]
def xS (n:Int):V4:=⟨n,[],[],dw⟩
def xO (b:Z):V4:=⟨0,[],b,dw⟩
def B7 (s:S3):V4:=⟨0,[],[],s⟩
def X4:Fd:=⟨3,1,1099511627776⟩
def xo:Fd:=⟨6,16,16⟩
def X5:Fd:=⟨3,1,1048576⟩
def lS:Fd:=⟨0,0,0⟩
def WN:Fd:=⟨9,0,0⟩
def TE (n:Int):VV:=⟨10,n,false,[],[]⟩
def KI (t:Z):VV:=⟨7,64,false,[],t⟩
def FQ:AA:=⟨10,0,0,0⟩
def Hf:AA:=⟨7,0,0,64⟩
theorem sb:u6 xo:=by unfold u6 xo;decide
theorem nM:u6 lS:=by unfold u6 lS;decide
structure XS (c:sW):Prop where
 se:gg X4 (xS c.se)
 iss:gg xo (xO (fQ c.iss))
 ge:gg X5 (xS c.ge)
 who:gg lS (B7 c.who)
 nb:gg WN (xS c.nb)
 na:gg WN (xS c.na)
 ky:gg xo (xO (fQ c.ky))
 us:1≤c.us∧c.us≤15
 n8:c.al.length≤8
 al:∀ t ∈ c.al,ay t 64=0
 hi:c.iss.length=32∧c.iss.all yd=true
 hk:c.ky.length=32∧c.ky.all yd=true
theorem JE {l:Z} (h:dV l=true):l.length=32∧l.all yd=true:=by
 unfold dV at h
 rw [YK,YP] at h
 exact h
def yh (t:Z):Z:=bL 12 t
def bE (c:sW):Z:=fR xo (xO (fQ c.ky))
def bF (c:sW):Z:=bL 3 (dD c.us.toNat)
def bM (c:sW):Z:=fR WN (xS c.nb)++fR WN (xS c.na)
def bT (c:sW):Z:=(c.al.map yh).flatten
def r7 (c:sW):Z:=bL 48 (bT c)++[]
def r6 (c:sW):Z:=bF c++r7 c
def r5 (c:sW):Z:=bE c++r6 c
def r4 (c:sW):Z:=bL 48 (bM c)++r5 c
def r3 (c:sW):Z:=fR lS (B7 c.who)++r4 c
def r2 (c:sW):Z:=fR X5 (xS c.ge)++r3 c
def r1 (c:sW):Z:=fR xo (xO (fQ c.iss))++r2 c
def r0 (c:sW):Z:=fR X4 (xS c.se)++r1 c
section
variable {c:sW}
theorem DN {t:Z} (h:ay t 64=0):(yh t).length≤80∧0<(yh t).length:=by
 have h1:=gZ h
 have h2:=ez 12 t
 have h3:=vu (12,t)
 refine ⟨?_,h3⟩
 unfold yh
 omega
theorem JN {l:YD}:(∀ t ∈ l,ay t 64=0)→((l.map yh).flatten).length≤80 * l.length:=by
 induction l with
 | nil=>intro _;simp
 | cons t l ih =>
  intro h
  have h1:=(DN (h t Y2)).1
  have h2:=ih fun x hx=>h x (Y7 _ hx)
  rw [Zc,Zv,YI,List.length_cons]
  omega
end
def tW (ws:W8) (l:YD):Nat→W8
 | 0=>di 48 ws
 | i+1=>mr (KI (l.getD i [])) (tW ws l i)
section
variable {c:sW}
theorem A3 {f:Fd} {v:V4} (ho:u6 f) (h:gg f v) {t:Int} {ls:YD} {fr:List (Int×YD)} {d:Z} (hl:fr.length<14):mh f v ⟨(t,ls)::fr,d,0⟩=⟨(t,ls++[fR f v])::fr,d,0⟩:=by
 rw [Me ho h rfl (by rw [List.length_cons];omega),mE]
theorem Mu {t:Int} {ls:YD} {fr:List (Int×YD)} {d:Z} (hl:fr.length<14):di 48 ⟨(t,ls)::fr,d,0⟩=⟨(48,[])::(t,ls)::fr,d,0⟩:=by
 unfold di
 rw [YE (by simp),YE jD,YE (by rw [List.length_cons];omega)]
theorem TH {x:Z} (h:ay x 64=0) {t:Int} {ls:YD} {fr:List (Int×YD)} {d:Z}:mr (KI x) ⟨(t,ls)::fr,d,0⟩=⟨(t,ls++[yh x])::fr,d,0⟩:=by
 rw [BC (v:=KI x) (by show (3:Int)≤7∧(7:Int)≤10;decide)]
 have e:bp (KI x)=(12,x,0):=by
  show ((12:Int),(if ay x 64=0 then x else []),ay x 64)=_
  rw [h,YF rfl]
 have hl:=gZ h
 rw [e,rg rfl (show bI 12=true by decide) (by dsimp only;omega),mE]
 rfl
theorem KU {l:YD} (hg:∀ x ∈ l,ay x 64=0) {t:Int} {ls:YD} {fr:List (Int×YD)} {d:Z} (hl:fr.length<14):∀ i,i≤l.length→tW ⟨(t,ls)::fr,d,0⟩ l i=⟨(48,(l.take i).map yh)::(t,ls)::fr,d,0⟩
 | 0,_=>Mu hl
 | i+1,h=>by
  show mr (KI (l.getD i [])) (tW _ l i)=_
  rw [KU hg hl i O]
  have e:l.getD i []=l[i]'O:=by simp [List.getD,show i<l.length by omega]
  rw [e,TH (hg _ (ZS _)),YO (show i<l.length by omega),Z3]
  rfl
end
end
section
open Go.RowKit Cal
def W7 (ws:R8) (l:YD):Nat→R8
 | 0=>oI (w1 48) ws
 | i+1=>oI (KI (l.getD i [])) (W7 ws l i)
def Ya:R8:=oI (w1 48) Xj
section
variable {c:sW}
theorem Lj {x:Z} (h:ay x 64=0):jY (KI x):=⟨by simp [KI],by simp [KI],by have:=gZ h;show x.length≤300;omega⟩
theorem Tg:gP 1 Ya (di 48 SN):=by
 have:=mL UO (mT (t:=48) jD)
 rw [sP] at this
 exact this
def s1 (c:sW):YD:=[[]]++[r1 c]
def s2 (c:sW):YD:=[[]]++[r2 c]
def s3 (c:sW):YD:=[[]]++[r3 c]
def s4 (c:sW):YD:=[[]]++[r4 c]
def m0 (c:sW):YD:=[[]]++[r5 c]++[bM c]
def m1 (c:sW):YD:=[[]]++[r5 c]++[fR WN (xS c.na)++[]]
def m2 (c:sW):YD:=[[]]++[r5 c]++[[]]
def s5 (c:sW):YD:=[[]]++[r5 c]
def s6 (c:sW):YD:=[[]]++[r6 c]
def s7 (c:sW):YD:=[[]]++[r7 c]
def ce:nv Z:=fun l k=>(((ac Hf l k).l,(ac Hf l k).k),(ac Hf l k).v.t)
theorem said_tx {x:Z} (h:ay x 64=0):saidM Hf x=(vT x,0):=by
 show (vT (if ay x 64=0 then x else []),ay x 64)=_
 rw [h,YF rfl]
theorem KN:ud ce yh (fun x=>ay x 64=0):=⟨fun ls x r hx=>by
  have hl:=gZ hx
  have:=pf Hf ls (b:=x) r (by show (3:Int)≤7∧(7:Int)≤10;decide) O (by rw [said_tx hx])
  have e:yh x=bL (bR Hf) x:=rfl
  unfold ce
  rw [e,this,said_tx hx]
  rfl,fun ls x k h=>by
  have h':(ac Hf (ls++[x]) k).k=0:=h
  obtain ⟨h1,b,r,h2,h3,h4,h5⟩:=lp (a:=Hf) (by show (3:Int)≤7∧(7:Int)≤10;decide) h'
  have hb:ay b 64=0:=h4
  refine ⟨h1,b,r,hb,h2,?_⟩
  unfold ce
  rw [h5,said_tx hb]
  rfl,fun x hx=>(DN hx).2⟩
end
end
section
variable {gs:List Nat} [dK gs]

abbrev G5:=Int×Int×Bool×Int×Int
def g0:G5:=(0,0,false,0,0)
theorem Nh {G:Gh} {s:AS} (d:Nat) {i off n m:Nat} {g:Option Nat} (hl:look s.env s.b d=.os i g off n m):∀ a w,vy G s a w→g=none→n=0:=fun a w ⟨St,hr⟩ hg=>by
 have:=ji hr (x:=.tmp d) hl
 subst hg
 exact this.1
structure oG (q:G5→Bool) (l X:List G5) (i j:Nat):Prop where
 len:X.length=l.length
 pre:X.take i=(l.take j).filter q
 suf:X.drop j=l.drop j
 lt:i<j
 le:j≤l.length
variable {q:G5→Bool} {l X:List G5} {i j:Nat}
theorem oG.at (h:oG q l X i j) (hj:j<l.length):X.getD j g0=l[j]:=by
 have hx:j<X.length:=by rw [h.len];exact hj
 have e:=h.suf
 rw [Y5 hx,Y5 hj] at e
 have:=(List.cons.inj e).1
 simp [List.getD,hx,this]
theorem oG.sufS (h:oG q l X i j) (hj:j<l.length):X.drop (j+1)=l.drop (j+1):=by
 have e:=Y3 (List.drop 1) h.suf
 rw [ZX,ZX] at e
 exact e
theorem oG.skip (h:oG q l X i j) (hj:j<l.length) (hq:q (X.getD j g0)=false):oG q l X i (j+1) where
 len:=h.len
 pre:=by
  rw [YO hj,List.filter_append,← h.pre]
  rw [h.at hj] at hq
  simp [hq]
 suf:=h.sufS hj
 lt:=by have:=h.lt;omega
 le:=hj
theorem oG.put (h:oG q l X i j) (hj:j<l.length) (hq:q (X.getD j g0)=true):oG q l (X.set i (X.getD j g0)) (i+1) (j+1) where
 len:=by rw [ZW];exact h.len
 pre:=by
  have hi:i<X.length:=by have:=h.lt;rw [h.len];omega
  rw [h.at hj] at hq ⊢
  rw [YO hj,List.filter_append,← h.pre]
  rw [YO (by simpa using hi)]
  simp [hq,List.take_set_of_le]
 suf:=by
  rw [List.drop_set_of_lt (by have:=h.lt;omega)]
  exact h.sufS hj
 lt:=by have:=h.lt;omega
 le:=hj
theorem oG.fin (h:oG q l X i j) (hj:¬ j<l.length):X.take i=l.filter q:=by
 rw [h.pre,Y0 O]
end
section
variable {gs:List Nat} [dK gs]

abbrev Q5:=S3×Z×Int×Int×YD
def LJ (q:Q5):Nat→CV:=fl [.c (.int .i64 q.1.1),an q.1.2.1,an q.1.2.2,an q.2.1,.c (.int .i64 q.2.2.1),.c (.int .i64 q.2.2.2.1),sX q.2.2.2.2]
def kx (q:Q5):CV:=.agg 7 (LJ q)

section
variable {P:Program} {G:Gh} {s:AS} {o:Oper} {x y:Operand} {t u:TypeId} {k:IntKind} {a b:Int}
end
end
section
variable {gs:List Nat} [dK gs]


theorem Jd (l:Z):cc gs Tryz.prog 39 [an l] (.tup 2 (fl [.top,.err (if dV l=true then 0 else 4)])):=by
 refine aj 39 Tryz.func39 fun al w0 F0 St0=>?_;refine U 52400001675116 ?_;refine ap (fun h99=>?_) fun h99=>?_
 ·refine gY ?_;refine dY (.rd 0 (.rd 1 (.rd 2 .done))) ?_;refine U 80003000700088070704000000 ?_
  refine cT (aa.top _) (aa.errN ?_)
  rw [YE (by simp [dV];omega)]
 refine U 6810 ?_
 refine au (BA (F:=bc (List.replicate 16 0)) rfl rfl rfl (show (16:Int)=((16:Nat):Int) from rfl) (show (16:Int)=((16:Nat):Int) from rfl) (by (omega)) Tryz.underlying23 ix er mx (by (omega)) (by (omega)) (fun j hj=>by rw [yq j];exact Kr j) rfl rfl (fun p1=>?_))
 refine U 20514000016751 ?_;refine ax (α:=Nat×Z) [2,3,5,6,14,15,16,17,18,19,20,21,22,23,24,25,26,27,28,29,30,31,32,33,34,35,36,37] (fun (i,X)=>[(14,.c (.int .i64 (i:Nat)))]) (fun (i,X)=>[(p1,.blk 16 (bc X))]) (fun (i,X)=>i≤l.length∧X.length=16∧∀ j,j<i→0≤Lib.indexByte iu (l.getD j 0)) (fun (i,X)=>l.length-i) ((0,List.replicate 16 0)) ?_ (fun _=>rfl) ?_ ?_ ?_
 ·exact ⟨YT _,rfl,fun j hj=>absurd hj (YW j)⟩
 ·exact .cons I .nil
 ·exact .same .nil
 ·rintro ⟨i,X⟩ ⟨(hi:i≤l.length),(hXl:X.length=16),he⟩
  have hhx:=vp (l.getD i 0)
  refine U 7526 ?_;refine ap (fun h103=>?_) fun h103=>?_
  rotate_left
  ·refine U 800070005111684000200020006000 ?_
   refine cT (aa.top _) (aa.nilE ?_)
   have hall:dV l=true:=by
    simp only [dV,YK,Y8,YP]
    refine ⟨by omega,fun c hc=>?_⟩
    obtain ⟨j,hj,rfl⟩:=acx hc
    have:=he j O
    simpa [List.getD,hj] using this
   rw [YF hall]
  refine U 800000001165116207810 ?_
  refine au (ar (vo iu (l.getD i 0)) ?_)
  refine U 5216751 ?_;refine ap (fun h105=>?_) fun h105=>?_
  ·refine gY ?_;refine dY (.rd 0 (.rd 1 (.rd 2 .done))) ?_;refine U 8000300050003000300050003000700088070704000000 ?_
   refine cT (aa.top _) (aa.errN ?_)
   rw [YE (by rw [qh (i:=i) O O];simp)]
  refine U 6000001160000011200810 ?_;refine jq (dU (i:=(i / 2)) (hz:=by omega)) ?_;refine U 50 ?_;refine jq (ic rfl rfl rfl (by (omega)) ((Ci (X.getD (i / 2) 0))) (rfl)) ?_;refine U 8000001 ?_;refine jq (wB rfl rfl rfl ((Ur (Ci (X.getD (i / 2) 0)) (Lib.indexByte iu (l.getD i 0)))) (rfl)) ?_;refine jq (dU (i:=(i / 2)) (hz:=by omega)) ?_
  refine aq (bo 1 (bc (X.set (i / 2) (Bb (X.getD (i / 2) 0) (Lib.indexByte iu (l.getD i 0))))) ?_ ?_)
  ·exact (fun j hj=>vM (C2 _ _) O j)
  refine U 851920084005 ?_
  refine aw ((i+1,X.set (i / 2) (Bb (X.getD (i / 2) 0) (Lib.indexByte iu (l.getD i 0))))) ?_ ?_ (h5:=?_) (h7:=?_)
  ·exact ⟨by omega,by simp [hXl],fun j hj=>by
    by_cases e:j=i
    ·subst e;omega
    ·exact he j O⟩
  ·show l.length-(i+1)<l.length-i;omega
  ·exact .cons (cI O) .nil
  ·exact .same .nil
end
end Am
end Go.Proofs.YtghminnpfnkbjaaGreatDoor
