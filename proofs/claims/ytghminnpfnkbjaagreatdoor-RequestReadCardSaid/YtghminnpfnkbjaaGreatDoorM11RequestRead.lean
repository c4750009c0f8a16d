/- What the law leans on, part 11: W23f, W23g, W02b, AmO, AmQ, W02c, W11a, W11r, P12, W05r, P08k, P19b, P19c, W08q, W08r, W08s -/
import Derived.Test.YtghminnpfnkbjaaGreatDoorM10RequestRead

set_option maxRecDepth 100000
set_option maxHeartbeats 8000000
namespace Go.Proofs.YtghminnpfnkbjaaGreatDoor
set_option linter.unusedVariables false
namespace Am
open Go.RowKit
section
variable {gs:List Nat} [dK gs]

def BR (ls:YD) (j:Nat):CV:=an (ls.getD j [])
theorem AQ:FR 1 BR:=fun l l2 j hj=>by
 simp only [BR,YH]
 split
 ·rw [YL O]
 ·rw [YX O,Ze]
def Kk (n:Nat) (p:Nat→Bool):Bool:=(List.range n).all p
theorem pB {n:Nat} {p:Nat→Bool}:Kk n p=true↔∀ i,i<n→p i=true:=by simp [Kk]
theorem xJ {n i:Nat} {p:Nat→Bool} (hi:i<n) (h:p i=false):Kk n p=false:=by
 cases e:Kk n p with
 | false=>rfl
 | true=>rw [pB.1 e i hi] at h;cases h
def Le (l:YD):Bool:=Kk (l.length-1) fun j=>!Op.bytesLess (l.getD (j+1) []) (l.getD j [])
def G8 (l:YD):Bool:=Kk (l.length-1) fun j=>decide (l.getD (j+1) []≠l.getD j [])
def pa (l:YD):Bool:=decide (l.length≤8) && Le l && G8 l && l.all kA
theorem GC {gs:List Nat} (a:Z):cc gs Tryz.prog 208 [an a] (.c (.bool false)):=by
 refine aj 6 Tryz.func208 fun al w0 F0 St0=>?_;refine U 800070005160000116516 ?_;refine cB ?_
 simp
theorem M2 {gs:List Nat} (a b:Z):cc gs Tryz.prog 167 [an a,an b] (.c (.bool (Op.bytesLess a b))):=by
 refine aj 17 Tryz.func167 fun al w0 F0 St0=>?_;refine U 16516 ?_
 refine au (ar (GC a) ?_)
 refine U 1 ?_;refine aK 7 (fun g29=>?_) fun g29=>?_
 rotate_left
 ·refine U 800070005150060000111500444 ?_;refine cB ?_
  rfl
 refine U 1 ?_
 refine au (ar (GC b) ?_)
 refine U 110000000030 ?_;refine aK 12 (fun g29_2=>?_) fun g29_2=>?_
 ·refine U 8000700051100000000444 ?_;refine cB ?_
  (simp_all;done)
 refine U 80007000515006000011 ?_;refine cB ?_
 rfl
theorem HQ {gs:List Nat} (l:YD):cc gs Tryz.prog 107 [sX l] (.c (.bool (Le l))):=by
 refine fC 0 rfl fun hlen=>?_;refine aj 21 Tryz.func107 fun al w0 F0 St0=>?_;refine U 205193167516 ?_;refine ax (α:=Nat) [2,3,7,8,9,10,11,12,13,14,15,16,17,18,19,20] (fun k=>[(3,.c (.int .i64 ((k:Int)-1)))]) (fun _=>[]) (fun k=>k≤l.length∧∀ j,k≤j+1→j+1<l.length→Op.bytesLess (l.getD (j+1) []) (l.getD j [])=false) (fun k=>k) (l.length) ?_ (fun _=>rfl) ?_ ?_ ?_
 ·exact ⟨YG _,fun j h1 h2=>by omega⟩
 ·exact .cons (cI O) .nil
 ·(repeat (exact aP.nil))
 ·rintro k ⟨hk,he⟩
  refine U 52167 ?_;refine ap (fun h43=>?_) fun h43=>?_
  rotate_left
  ·refine U 8000700051684000200020006000 ?_;refine cB ?_
   refine (pB.2 fun i hi=>?_).symm
   rw [he i O O];rfl
  refine U 7207810 ?_;refine dY (.rd 0 (.rd 1 (.rd 2 (.rd 3 (.rd 4 (.rd 5 (.rd 6 (.rd 7 (.rd 8 (.one 9 .done)))))))))) ?_;refine U 7070 ?_;refine aM (dU (i:=(k-1)) (hz:=by omega)) ?_;refine U 30000707070000 ?_;refine aM (dU (i:=(k-2)) (hz:=by omega)) ?_;refine aM kC ?_
  refine ir (ar (M2 (l.getD (k-1) []) (l.getD (k-2) [])) ?_)
  refine U 880 ?_;refine ap (fun h44=>?_) fun h44=>?_
  ·refine U 8000300050003000300050007000516 ?_;refine cB ?_
   refine (xJ (i:=k-2) O ?_).symm
   show (!Op.bytesLess (l.getD (k-2+1) []) (l.getD (k-2) []))=false
   rw [show k-2+1=k-1 by omega,h44];rfl
  refine U 85191200840010 ?_
  refine aw (k-1) ?_ ?_ (h5:=?_)
  ·exact ⟨by omega,fun j h1 h2=>by
    by_cases e:j+2=k
    ·have e1:j+1=k-1:=by omega
     have e2:j=k-2:=by omega
     rw [e1,e2];simpa using h44
    ·exact he j O h2⟩
  ·show k-1<k;omega
  ·exact .cons (cI O) .nil
theorem HE {gs:List Nat} {g:FuncId} {n:Nat} {fv:Nat→CV} (hc:bA Tryz.prog g=true) (l:YD) (p:Z→Bool) (hp:∀ r,cc gs Tryz.prog g ((fun z:Z=>an z) r::(List.range n).map fv) (.c (.bool (p r)))) :
  cc gs Tryz.prog 168 [sX l,.fn g n fv] (.c (.int .i64 (dZ p l))):=by
 refine fC 0 rfl fun hlen=>?_;refine aj 19 Tryz.func168 fun al w0 F0 St0=>?_;refine U 20513167516 ?_;refine ax (α:=Nat) [4,5,8,9,10,11,12,13,14,15,16,17,18] (fun i=>[(8,.c (.int .i64 (i:Nat)))]) (fun _=>[]) (fun i=>i≤l.length∧∀ j (hj:j<l.length),j<i→p l[j]=false) (fun i=>l.length-i) (0) ?_ (fun _=>rfl) ?_ ?_ ?_
 ·exact ⟨by omega,fun j _ hj=>absurd hj (YW j)⟩
 ·(repeat (first|exact bz.nil|refine bz.cons I ?_))
 ·(repeat (exact aP.nil))
 ·rintro i ⟨hi,he⟩
  refine U 7526 ?_;refine ap (fun h108=>?_) fun h108=>?_
  rotate_left
  ·refine U 8000700051684000200020006000 ?_;refine cI ?_
   exact (mo fun j hj=>he j hj O).symm
  refine U 6070011165116207810 ?_
  refine au (ld rfl rfl (by assumption) (hp (l.getD i [])) (nZ I _) rfl rfl ?_)
  rintro _ _ ⟨rfl,rfl⟩
  refine U 5 ?_;refine ap (fun h109=>?_) fun h109=>?_
  ·refine U 80003000500030003000500070005116 ?_;refine cI ?_
   have hlt:i<l.length:=by omega
   exact (ni i hlt (by simpa [List.getD,hlt] using h109) (fun j hj=>he j O hj)).symm
  refine U 8519200840010 ?_;refine aw (i+1) ?_ ?_
  ·exact ⟨by omega,fun j hj hj1=>by
    by_cases e:j=i
    ·subst e
     simpa [List.getD,hj] using h109
    ·exact he j hj O⟩
  ·omega
theorem HG {gs:List Nat} {g:FuncId} {n:Nat} {fv:Nat→CV} (hc:bA Tryz.prog g=true) (l:YD) (p:Z→Bool) (hp:∀ r,cc gs Tryz.prog g ((fun z:Z=>an z) r::(List.range n).map fv) (.c (.bool (p r)))) :
  cc gs Tryz.prog 110 [sX l,.fn g n fv] (.c (.bool (l.any p))):=by
 refine aj 9 Tryz.func110 fun al w0 F0 St0=>?_;refine U 116516 ?_
 refine au (ar (HE hc l p hp) ?_)
 refine U 80007000512 ?_;refine cB ?_
 exact rC p l
theorem I5 {gs:List Nat} (s:Z):cc gs Tryz.prog 111 (an s::(List.range 0).map fun _=>.top) (.c (.bool (!kA s))):=by
 refine aj 6 Tryz.func111 fun al w0 F0 St0=>?_;refine U 16516 ?_
 refine au (ar (wY s) ?_)
 refine U 5130 ?_
 refine jR (eA (hv:=I))
theorem J6 {gs:List Nat} (l:YD) (hl:l.length≤1000000):AC gs Tryz.prog 109 [] [sX l] (sV l.length 1 (l.length * 1) (BR l)):=by
 refine aj 8 Tryz.func109 fun al w0 F0 St0=>?_;refine U 167516 ?_;refine pN (bw rfl) rfl rfl rfl Tryz.underlying27 rfl rfl (fun h357=>?_) ?_
 ·refine U 51690005 ?_;refine jE (mj 2 1 (BR l) rfl) ?_;refine U 30007000 ?_
  exact oE 0 (.inl rfl) (av rfl (ak rfl)) rfl O O (fun _=>by omega) (fun j hj=>by omega)
 ·refine U 68103005 ?_
  refine au (aY 0 1 Eg fun p1=>?_)
  refine U 1 ?_
  refine aq (aF (l:=[]) ( AQ) rfl rfl rfl rfl (ZR (ZQ _)) (fun j hj=>absurd hj (by simp)) (ew rfl) rfl (fun j hj=>by (simp only [ZN];exact I)) Tryz.underlying27 MG PY Eg WV rfl (by (simp;omega)) (by (simp;omega)) (fun j hj=>rfl) rfl rfl rfl (fun p2=>?_))
  refine U 700051 ?_
  exact oE 0 (.inl rfl) (av rfl (ak rfl)) rfl (by simp) (by simp) (fun _=>by simp) (fun j hj=>I)
theorem PQ {X:YD} {o:Nat} {c:Z} (ho:o<X.length) (j:Nat):aa (gT (BR X) o (List.map CV.c (Value.string ⟨c.toArray⟩).cells.toList) j) (BR (X.set o c) j):=by
 rw [dE,show (List.map CV.c (Value.string ⟨c.toArray⟩).cells.toList).length=1 from rfl]
 by_cases e:j=o
 ·subst e
  rw [jP,aNx]
  have:(X.set j c).getD j []=c:=by simp [List.getD,ho]
  unfold BR
  rw [this]
  exact I
 ·rw [jK]
  refine aa.of_eq ?_
  unfold BR
  simp [List.getD,Ne.symm e]
def W4 (l:YD):CV→List (Option Nat×bi)→Prop:=fun r H'=>∃ (n':Nat) (g:Option Nat) (N:Nat) (F:Nat→CV),r=.os 0 g 0 n' 1∧H'=[(g,.blk N F)]∧n'≤l.length∧(n'=l.length↔G8 l=true)
theorem OM {l:YD} {k:Nat} (h1:1≤k) (hk:k<l.length) (h:l.getD k []=l.getD (k-1) []):G8 l=false :=
 xJ (i:=k-1) O (by
  have e:k-1+1=k:=by omega
  simp only [e,h];simp)
theorem Fx {gs:List Nat} (g:Option Nat) (l:YD) (hl:l.length≤1000000):AC gs Tryz.prog 108 [(g,.blk (l.length * 1) (BR l))] [.os 0 g 0 l.length 1] (W4 l):=by
 refine aj 61 Tryz.func108 fun al w0 F0 St0=>?_;refine U 523167516 ?_;refine ap (fun h372=>?_) fun h372=>?_
 ·refine U 300070005116 ?_
  exact bV (.inl rfl) _ _ [0] jD rfl (av rfl (ak rfl)) ⟨_,_,_,_,rfl,rfl,YG _,⟨fun _=>pB.2 fun i hi=>by omega,fun _=>rfl⟩⟩
 refine U 205167810 ?_;refine ax (α:=Nat) [2,3,4,5,10,11,12,13,14,15,16,17,18,19,20,21,22,23,24,25,26,27,28,29,30,31,32,33,34,35,36,37,38,39,40,41,42,43,44,45,46,47,48,49,50,51,52,53,54,55,56,57,58,59] (fun k=>[(3,.c (.int .i64 (k:Nat)))]) (fun k=>[(g,.blk (l.length * 1) (BR l))]) (fun k=>1≤k∧k≤l.length∧∀ j,1≤j→j<k→l.getD j []≠l.getD (j-1) []) (fun k=>l.length-k) (1) ?_ (fun _=>rfl) ?_ ?_ ?_
 ·exact ⟨YG _,by omega,fun j h1 h2=>by omega⟩
 ·(repeat (first|exact bz.nil|refine bz.cons I ?_))
 ·(repeat (first|exact aP.nil|refine aP.same ?_))
 ·rintro k ⟨hk1,hk,he⟩
  refine U 5231167 ?_;refine ap (fun h375=>?_) fun h375=>?_
  rotate_left
  ·refine U 7000511684000200020006000 ?_
   exact bV (.inl rfl) _ _ [0] jD rfl (av rfl (ak rfl)) ⟨_,_,_,_,rfl,rfl,YG _,⟨fun _=>pB.2 fun i hi=>by have:=he (i+1) O O;simpa using this,fun _=>rfl⟩⟩
  refine U 7207810 ?_;refine dY (.rd 0 (.rd 1 (.rd 2 (.rd 3 (.rd 4 (.rd 5 (.rd 6 (.rd 7 (.rd 8 (.rd 9 .done)))))))))) ?_;refine U 7070 ?_;refine aM (dU (i:=k) (hz:=by omega)) ?_;refine U 30000707010000 ?_;refine aM (dU (i:=(k-1)) (hz:=by omega)) ?_;refine w8 gm ?_;refine aM Ff ?_;refine U 880 ?_;refine ap (fun h376=>?_) fun h376=>?_
  rotate_left
  ·refine U 85191200840010 ?_
   refine aw (k+1) ?_ ?_ (h5:=?_)
   ·exact ⟨by omega,by omega,fun j h1 h2=>by
     by_cases e:j=k
     ·subst e;simpa using h376
     ·exact he j h1 O⟩
   ·show l.length-(k+1)<l.length-k;omega
   ·exact .cons (cI O) .nil
  refine cL (Nh 0 rfl) fun hgn=>?_
  have hbad:=OM (l:=l) (k:=k) hk1 O (by simpa using h376)
  refine U 116 ?_;refine jq (Fe (hl:=(cw rfl (show _=((k:Nat):Int) by omega))) (hu:=(bG _ _))) ?_;refine U 20516751 ?_;refine ax (α:=Nat×Nat×YD) [3,5,29,30,31,32,33,34,35,36,37,38,39,40,41,42,43,44,45,46,47,48,49,50,51,52,53] (fun (i,j,X)=>[(3,.c (.int .i64 (i:Nat))),(5,.c (.int .i64 (j:Nat)))]) (fun (i,j,X)=>[(g,.blk (l.length * 1) (BR X))]) (fun (i,j,X)=>1≤j∧i+1≤k+j∧k+j≤l.length∧X.length=l.length) (fun (i,j,X)=>l.length-j) ((k,1,l)) ?_ (fun _=>rfl) ?_ ?_ ?_
  ·exact ⟨YG _,by omega,by omega,rfl⟩
  ·exact .cons I (.cons I .nil)
  ·exact .same .nil
  ·rintro ⟨i,j,X⟩ ⟨(hj1:1≤j),(hij:i+1≤k+j),(hjl:k+j≤l.length),(hXl:X.length=l.length)⟩
   refine U 5231167 ?_;refine ap (fun h378=>?_) fun h378=>?_
   rotate_left
   ·refine U 11684000200020006000 ?_;refine jq (Fe (hl:=(cw rfl (show _=((i:Nat):Int) by omega))) (hu:=(bG _ _))) ?_
    refine aq (Rn (M:=i * 1) rfl rfl rfl Tryz.underlying27 PY Eg rfl jD (by (simp [Value.cells,Value.oneCell'];done)) O O (fun hg=>absurd (hgn hg) O) rfl ?_)
    refine U 1165 ?_;refine jq (Fe (hl:=(bG _ _)) (hu:=(cw rfl (show _=((i:Nat):Int) by omega)))) ?_;refine U 30005000300030005000700051 ?_
    exact bV (.inl rfl) _ _ [0] jD rfl (av rfl (ak rfl)) ⟨_,_,_,_,rfl,rfl,by omega,⟨fun e=>by omega,fun e=>by rw [hbad] at e;cases e⟩⟩
   refine U 7207810 ?_;refine dY (.rd 0 (.rd 1 (.rd 2 (.rd 3 (.rd 4 (.rd 5 (.rd 6 (.rd 7 (.rd 8 (.rd 9 .done)))))))))) ?_;refine U 7070 ?_;refine aM (gh (i:=j) rfl rfl rfl Tryz.underlying27 PY O O) ?_;refine U 30000707010000 ?_;refine aM (gh (i:=j-1) rfl rfl rfl Tryz.underlying27 PY O O) ?_;refine w8 gm ?_;refine aM Ff ?_;refine U 880 ?_;refine ap (fun h379=>?_) fun h379=>?_
   rotate_left
   ·refine U 85191200840010 ?_
    refine aw ((i,j+1,X)) ?_ ?_ (h5:=?_) (h7:=?_)
    ·exact ⟨show 1≤j+1 by omega,show i+1≤k+(j+1) by omega,show k+(j+1)≤l.length by omega,hXl⟩
    ·show l.length-(j+1)<l.length-j;omega
    ·exact .cons I (.cons (cI (by show _=((j+1:Nat):Int);omega)) .nil)
    ·exact .same .nil
   refine U 11116 ?_;refine jq (gh (i:=j) rfl rfl rfl Tryz.underlying27 PY O O) ?_;refine U 50 ?_;refine jq (dU (i:=i) (hz:=by omega)) ?_
   refine aq (bo 1 (BR (X.set i (X.getD (0+k * 1+j * 1) []))) ?_ ?_)
   ·exact (fun m hm=>PQ (X:=X) (o:=i) (c:=X.getD (0+k * 1+j * 1) []) O m)
   refine U 85191200840051912005 ?_
   refine aw ((i+1,j+1,X.set i (X.getD (0+k * 1+j * 1) []))) ?_ ?_ (h5:=?_) (h7:=?_)
   ·exact ⟨show 1≤j+1 by omega,show i+1+1≤k+(j+1) by omega,show k+(j+1)≤l.length by omega,by simp [hXl]⟩
   ·show l.length-(j+1)<l.length-j;omega
   ·exact .cons (cI (by show _=((i+1:Nat):Int);omega)) (.cons (cI (by show _=((j+1:Nat):Int);omega)) .nil)
   ·exact .same .nil

theorem Ik {gs:List Nat} (l:YD):cc gs Tryz.prog 51 [sX l] (.c (.bool (pa l))):=by
 refine fC 0 rfl fun hlen=>?_
 have hall:=uO kA l
 refine aj 24 Tryz.func51 fun al w0 F0 St0=>?_;refine U 12316516 ?_;refine aK 6 (fun g24=>?_) fun g24=>?_
 rotate_left
 ·refine U 800070005150044415004444444150044 ?_;refine cB ?_
  unfold pa
  rw [← hall]
  (simp_all;omega)
 refine U 1 ?_
 refine au (ar (HQ l) ?_)
 refine U 1100000000 ?_;refine aK 10 (fun g24_2=>?_) fun g24_2=>?_
 rotate_left
 ·refine U 800070005150044415004444444 ?_;refine cB ?_
  unfold pa
  rw [← hall]
  (simp_all;done)
 refine U 1 ?_
 refine au (Bm (J6 l O) (fun p1=>?_))
 refine aq (Jn 0 (Fx _ l O) ?_)
 rintro _ _ ⟨n1,gC,NC,FC,rfl,rfl,hn1,hd1⟩;refine ⟨_,_,rfl,I,?_⟩
 refine U 11000000002313 ?_;refine aK 19 (fun g24_3=>?_) fun g24_3=>?_
 ·refine U 1 ?_
  refine au (ar (HG (n:=0) (fv:=fun _=>.top) (by kernel_rfl) l (fun s=>!kA s) I5) ?_)
  refine U 800070005110000000030 ?_;refine cB ?_
  unfold pa
  rw [← hall]
  grind
 refine U 8000700051500444 ?_;refine cB ?_
 unfold pa
 rw [← hall]
 grind
def cA (q:Q5):Bool:=bW q.1 && decide (q.1.1≠5) && dV q.2.1 && decide (1≤q.2.2.1) && decide (q.2.2.1≤15) && decide (1≤q.2.2.2.1) && decide (q.2.2.2.1≤253402300799) && pa q.2.2.2.2
theorem y5 (q:Q5):cc gs Tryz.prog 16 [kx q] (.c (.bool (cA q))):=by
 refine aj 51 Tryz.func16 fun al w0 F0 St0=>?_;refine dP ?_
 refine au (ff 7 fun p1=>?_)
 refine U 505000000651 ?_
 refine au (ar (Jd q.2.1) ?_)
 refine U 65119009001 ?_;refine jq (fF 0 3 true) ?_;refine gw (bq 3) ?_
 refine au (ar (zg q.1) ?_)
 refine U 1 ?_;refine aK 15 (fun g30=>?_) fun g30=>?_
 rotate_left
 ·refine U 80007000515004441500444150044415004441500444150044116515004444 ?_;refine cB ?_
  unfold cA
  (simp_all;done)
 refine jq (fF 0 3 true) ?_;refine U 1165110000000025090 ?_;refine aK 22 (fun g31=>?_) fun g31=>?_
 rotate_left
 ·refine U 80007000515004441500444150044415004441500444150044 ?_;refine cB ?_
  unfold cA
  (simp_all;done)
 refine U 11000000005000001 ?_;refine aK 26 (fun g31_2=>?_) fun g31_2=>?_
 rotate_left
 ·refine U 80007000515004441500444150044415004441500444 ?_;refine cB ?_
  unfold cA
  (simp_all;done)
 refine U 11000000002507000000 ?_;refine aK 31 (fun g31_3=>?_) fun g31_3=>?_
 rotate_left
 ·refine U 8000700051500444150044415004441500444 ?_;refine cB ?_
  unfold cA
  (simp_all;omega)
 refine U 11000000002507000000 ?_;refine aK 36 (fun g31_4=>?_) fun g31_4=>?_
 rotate_left
 ·refine U 800070005150044415004441500444 ?_;refine cB ?_
  unfold cA
  (simp_all;omega)
 refine U 11000000002506000000 ?_;refine aK 41 (fun g31_5=>?_) fun g31_5=>?_
 rotate_left
 ·refine U 80007000515004441500444 ?_;refine cB ?_
  unfold cA
  (simp_all;omega)
 refine U 11000000002506000000 ?_;refine aK 46 (fun g31_6=>?_) fun g31_6=>?_
 ·refine U 5020000000 ?_
  refine au (ar (Ik q.2.2.2.2) ?_)
  refine U 8000700051100000000 ?_;refine cB ?_
  unfold cA
  (simp_all;done)
 refine U 8000700051500444 ?_;refine cB ?_
 unfold cA
 (simp_all;omega)
end
theorem zJ {l:Z} (hl:l.length=32) (h:∀ j,j<l.length→0≤Lib.indexByte iu (l.getD j 0)):dV l=true:=by
 simp only [dV,YK,Y8,YP]
 refine ⟨hl,fun c hc=>?_⟩
 obtain ⟨j,hj,rfl⟩:=acx hc
 have:=h j hj
 simpa [List.getD,hj] using this
theorem tI {l:Z} (h:l.length≠32):dV l=false:=by unfold dV;rw [Zl h];rfl
theorem NX {l:Z} (h:dV l=true):l.length=32∧l.all yd=true:=by
 unfold dV at h
 rw [YK,YP] at h
 exact h
theorem Rk {gs:List Nat} [gQ gs] (l:Z):cc gs Tryz.prog 39 [an l] (.tup 2 (fl [aV (if dV l=true then fQ l else []),.err (if dV l=true then 0 else 4)])):=by
 refine aj 39 Tryz.func39 fun al w0 F0 St0=>?_;refine U 52400001675116 ?_;refine ap (fun h99=>?_) fun h99=>?_
 ·refine gY ?_;refine dY (.rd 0 (.rd 1 (.rd 2 .done))) ?_;refine U 80003000700088070704000000 ?_
  have hb:dV l=false:=tI O
  rw [hb]
  exact cT (aa.nilS' rfl) (aa.errN rfl)
 refine U 6810 ?_
 refine au (BA (F:=bc (List.replicate 16 0)) rfl rfl rfl (show (16:Int)=((16:Nat):Int) from rfl) (show (16:Int)=((16:Nat):Int) from rfl) (by (omega)) Tryz.underlying23 ix er mx (by (omega)) (by (omega)) (fun j hj=>by rw [yq j];exact Kr j) rfl rfl (fun p1=>?_))
 refine U 20514000016751 ?_
 have h32:l.length=32:=by omega
 refine ax (α:=Nat×Z) [2,3,5,6,14,15,16,17,18,19,20,21,22,23,24,25,26,27,28,29,30,31,32,33,34,35,36,37] (fun (i,X)=>[(14,.c (.int .i64 (i:Nat)))]) (fun (i,X)=>[(p1,.blk 16 (bc X))]) (fun (i,X)=>i≤l.length∧yn l X i∧∀ j,j<i→0≤Lib.indexByte iu (l.getD j 0)) (fun (i,X)=>l.length-i) ((0,List.replicate 16 0)) ?_ (fun _=>rfl) ?_ ?_ ?_
 ·exact ⟨YT _,(by have:=yn.start l;rw [show l.length / 2=16 by omega] at this;exact this),fun j hj=>absurd hj (YW j)⟩
 ·exact .cons I .nil
 ·exact .same .nil
 ·rintro ⟨i,X⟩ ⟨(hi:i≤l.length),(hS:yn l X i),he⟩
  have hhx:=vp (l.getD i 0)
  have hXl:X.length=16:=by rw [hS.1];omega
  refine U 7526 ?_;refine ap (fun h103=>?_) fun h103=>?_
  rotate_left
  ·refine U 84000200020006000 ?_
   have hil:i=l.length:=by omega
   have hXe:=hS.done hil O
   refine jE (freeze 0 rfl) ?_;refine jE (kg 4 (fun k=>fun _=>bc X k) rfl rfl O (fun a b ha hb=>aa.of_eq (by rw [Nat.zero_add];congr 1;omega))) ?_;refine U 8000700051116 ?_
   have hall:=zJ h32 (fun j hj=>he j O)
   rw [YF hall,YF hall]
   exact cT (aa.rs (by rw [lP];omega) fun i j hi hj=>aa.of_eq (by rw [hXe])) (aa.nilE rfl)
  refine U 800000001165116207810 ?_
  refine au (ar (vo iu (l.getD i 0)) ?_)
  refine U 5216751 ?_;refine ap (fun h105=>?_) fun h105=>?_
  ·refine gY ?_;refine dY (.rd 0 (.rd 1 (.rd 2 .done))) ?_;refine U 8000300050003000300050003000700088070704000000 ?_
   have hb:dV l=false:=qh (i:=i) O O
   rw [hb]
   exact cT (aa.nilS' rfl) (aa.errN rfl)
  refine U 6000001160000011200810 ?_;refine jq (dU (i:=(i / 2)) (hz:=by omega)) ?_;refine U 50 ?_;refine jq (ic rfl rfl rfl (by (omega)) ((Ci (X.getD (i / 2) 0))) (rfl)) ?_;refine U 8000001 ?_;refine jq (wB rfl rfl rfl ((Ur (Ci (X.getD (i / 2) 0)) (Lib.indexByte iu (l.getD i 0)))) (rfl)) ?_;refine jq (dU (i:=(i / 2)) (hz:=by omega)) ?_
  refine aq (bo 1 (bc (X.set (i / 2) (Bb (X.getD (i / 2) 0) (Lib.indexByte iu (l.getD i 0))))) ?_ ?_)
  ·exact (fun j hj=>vM (C2 _ _) O j)
  refine U 851920084005 ?_
  refine aw ((i+1,X.set (i / 2) (Bb (X.getD (i / 2) 0) (Lib.indexByte iu (l.getD i 0))))) ?_ ?_ (h5:=?_) (h7:=?_)
  ·have hx:∀ j,j≤i→0≤Lib.indexByte iu (l.getD j 0):=fun j hj=>by
    by_cases e:j=i
    ·subst e;omega
    ·exact he j O
   exact ⟨by omega,hS.step O O hx,fun j hj=>hx j O⟩
  ·show l.length-(i+1)<l.length-i;omega
  ·exact .cons (cI O) .nil
  ·exact .same .nil
def xM (l X:Z) (i:Nat):Prop :=
 X.length=(i+1) / 2∧(∀ j,j<i / 2→X.getD j 0=bx (l.getD (2 * j) 0) (l.getD (2 * j+1) 0))∧(i % 2=1→X.getD (i / 2) 0=UInt8.ofNat (16 * hv (l.getD (i-1) 0)))
theorem xM.push {l X:Z} {i:Nat} (h:xM l X i) (he:i % 2=0):xM l (X++[UInt8.ofNat (16 * hv (l.getD i 0))]) (i+1):=by
 obtain ⟨h1,h2,h3⟩:=h
 refine ⟨by rw [YI,h1,ZC];omega,fun j hj=>?_,fun _=>?_⟩
 ·rw [← h2 j O]
  simp [List.getD,YL (show j<X.length by omega)]
 ·rw [show (i+1) / 2=X.length by omega,show i+1-1=i by omega]
  simp [List.getD]
theorem xM.put {l X:Z} {i:Nat} (h:xM l X i) (he:i % 2=1):xM l (X.set (i / 2) (bx (l.getD (i-1) 0) (l.getD i 0))) (i+1):=by
 obtain ⟨h1,h2,h3⟩:=h
 refine ⟨by rw [ZW,h1];omega,fun j hj=>?_,fun h=>by omega⟩
 rw [AG j O]
 by_cases e:j=i / 2
 ·rw [YF e,show 2 * j=i-1 by omega,show i-1+1=i by omega]
 ·rw [YE e];exact h2 j O
theorem xM.done {l X:Z} (h:xM l X l.length) (he:l.length=32):X=fQ l:=by
 obtain ⟨h1,h2,_⟩:=h
 have hl:=lP l
 refine agx O fun j a b=>?_
 have e1:=h2 j O
 have e2:=xg l j O
 rw [← e2] at e1
 simpa [List.getD,a,b] using e1
theorem US (c:UInt8):(48≤c.toNat∧c.toNat≤57→((hv c:Nat):Int)=(c.toNat:Int)-48∧0≤Lib.indexByte iu c)∧(97≤c.toNat∧c.toNat≤102→((hv c:Nat):Int)=(c.toNat:Int)-97+10∧0≤Lib.indexByte iu c)∧(¬ (48≤c.toNat∧c.toNat≤57)→¬ (97≤c.toNat∧c.toNat≤102)→Lib.indexByte iu c<0):=by
 have hd:=Vd c
 unfold hv
 refine ⟨fun h=>?_,fun h=>?_,fun h1 h2=>?_⟩
 ·rw [YF h] at hd;omega
 ·rw [jK,YF h] at hd;omega
 ·rw [YE h1,YE h2] at hd;omega
theorem GU (c:UInt8):hv c<16:=by have:=vp c;unfold hv;omega
theorem mK {n:Nat} (h:n<256):((UInt8.ofNat n).toNat:Nat)=n:=by rw [YY];omega
theorem Qo {gs:List Nat} (l:Z) (hl:l.length≤1000000):cc gs Tryz.prog 114 [an l] (.tup 2 (fl [if dV l=true then aV (fQ l) else .top,.c (.bool (dV l))])):=by
 refine aj 59 Tryz.func114 fun al w0 F0 St0=>?_;refine U 65116 ?_
 refine au (aY 0 1 er fun p1=>?_)
 refine U 20516751 ?_;refine ax (α:=Nat×Z×Option Nat) [2,3,4,5,6,7,9,10,11,12,13,14,15,16,17,18,19,20,21,22,23,24,25,26,27,28,29,30,31,32,33,34,35,36,37,38,39,40,41,42,43,44,45,46,47,48,49,50,51,52,53,54] (fun (i,X,g)=>[(5,.c (.int .i64 (i:Nat))),(4,.os 0 g 0 X.length 1)]) (fun (i,X,g)=>[(g,.blk X.length (bc X))]) (fun (i,X,g)=>i≤l.length∧xM l X i∧∀ j,j<i→0≤Lib.indexByte iu (l.getD j 0)) (fun (i,X,g)=>l.length-i) ((0,[],p1)) ?_ (fun _=>rfl) ?_ ?_ ?_
 ·exact ⟨YT _,⟨rfl,fun j hj=>absurd hj (YW j),fun h=>absurd h jD⟩,fun j hj=>absurd hj (YW j)⟩
 ·exact .cons I (.cons I .nil)
 ·exact .blk rfl (fun j hj=>absurd hj (YW j)) .nil
 ·rintro ⟨i,X,g⟩ ⟨(hi:i≤l.length),(hS:xM l X i),he⟩
  have hd:=US (l.getD i 0)
  have hv16:=GU (l.getD i 0)
  have hXl:X.length=(i+1) / 2:=hS.1
  have hv17:=GU (l.getD (i-1) 0)
  have hXo:i % 2=1→(X.getD (i / 2) 0).toNat=16 * hv (l.getD (i-1) 0):=fun h=>by rw [hS.2.2 h];exact mK O
  refine U 52400001167 ?_;refine ap (fun h69=>?_) fun h69=>?_
  rotate_left
  ·refine U 84000200020006000 ?_
   have hil:i=l.length:=by omega
   refine jE (freeze 0 rfl) ?_;refine jE (kg 4 (fun k=>fun _=>bc X k) rfl rfl O (fun a b ha hb=>aa.of_eq (by rw [Nat.zero_add];congr 1;omega))) ?_;refine U 80007000511240000116 ?_
   have hall:dV l=decide (l.length=32):=by
    by_cases h32:l.length=32
    ·rw [zJ h32 (fun j hj=>he j O),Zj h32]
    ·rw [tI h32,Zl h32]
   refine cT ?_ (cB (by rw [hall];exact decide_eq_decide.2 O))
   split
   ·rename_i ho
    have h32:=(NX ho).1
    subst hil
    have hX:=hS.done h32
    exact aa.rs (by rw [hX]) fun i j hi hj=>aa.of_eq (by rw [hX])
   ·exact aa.top _
  refine U 810 ?_;refine dW (α:=Z×Option Nat) [2,3,4,6,7,15,16,17,18,19,20,21,22,23,24,25,26,27,28,29,30,31,32,33,34,35,36,37,38,39,40,41,42,43,44,45,46,47,48,49,50,51,52,53,54] (fun (Y,g')=>[(4,.os 0 g' 0 Y.length 1)]) (fun (Y,g')=>[(g',.blk Y.length (bc Y))]) (fun (Y,g')=>xM l Y (i+1)∧0≤Lib.indexByte iu (l.getD i 0)) (fun _=>rfl) ?_ ?_
  ·refine U 516518000000011620 ?_;refine dW (α:=Unit) [2,3,7,18,19,20,21,22,23,24,25,26,27,28,29,30,31,32,33,34,35,36] (fun _=>[(7,.c (.int .i64 (hv (l.getD i 0):Nat)))]) (fun _=>[(g,.blk X.length (bc X))]) (fun _=>0≤Lib.indexByte iu (l.getD i 0)) (fun _=>rfl) ?_ ?_
   ·refine U 1216 ?_;refine aK 20 (fun g72=>?_) fun g72=>?_
    rotate_left
    ·refine U 1216300550044 ?_;refine aK 29 (fun g74=>?_) fun g74=>?_
     rotate_left
     ·refine U 800030005000300030005000300070005116300550044 ?_
      have hb:dV l=false:=qh (i:=i) O (hd.2.2 O O)
      rw [hb,YE jD]
      exact cT (aa.top _) I
     refine U 510000000021 ?_;refine ap (fun h74=>?_) fun h74=>?_
     rotate_left
     ·refine U 800030005000300030005000300070005116 ?_
      have hb:dV l=false:=qh (i:=i) O (hd.2.2 O O)
      rw [hb,YE jD]
      exact cT (aa.top _) I
     refine U 91200 ?_;refine jq (vi .u8 .i64) ?_;refine U 8519 ?_
     refine cU (()) ?_ (h5:=?_) (h7:=?_)
     ·exact (hd.1 O).2
     ·exact .cons (cI (by exact (hd.2.1 O).1.symm)) .nil
     ·exact .same .nil
    refine U 510000000021 ?_;refine ap (fun h72=>?_) fun h72=>?_
    ·refine U 91200 ?_;refine jq (vi .u8 .i64) ?_;refine U 851 ?_
     refine cU (()) ?_ (h5:=?_) (h7:=?_)
     ·exact (hd.1 O).2
     ·exact .cons (cI (by exact (hd.1 O).1.symm)) .nil
     ·exact .same .nil
    refine U 1216 ?_;refine aK 29 (fun g74=>?_) fun g74=>?_
    rotate_left
    ·refine U 800030005000300030005000300070005116300550044 ?_
     have hb:dV l=false:=qh (i:=i) O (hd.2.2 O O)
     rw [hb,YE jD]
     exact cT (aa.top _) I
    refine U 510000000021 ?_;refine ap (fun h74=>?_) fun h74=>?_
    rotate_left
    ·refine U 800030005000300030005000300070005116 ?_
     have hb:dV l=false:=qh (i:=i) O (hd.2.2 O O)
     rw [hb,YE jD]
     exact cT (aa.top _) I
    refine U 91200 ?_;refine jq (vi .u8 .i64) ?_;refine U 8519 ?_
    refine cU (()) ?_ (h5:=?_) (h7:=?_)
    ·exact (hd.2.1 O).2
    ·exact .cons (cI (by exact (hd.2.1 O).1.symm)) .nil
    ·exact .same .nil
   ·rintro u hx1
    refine U 52100000016 ?_;refine ap (fun h79=>?_) fun h79=>?_
    ·refine U 800000911200 ?_
     refine au (aY 1 1 er fun p2=>?_)
     refine aq (aR (l2:=[UInt8.ofNat (16 * hv (l.getD i 0))]) rfl rfl rfl (YG _) (fun _ _=>I) (aW rfl (.inl rfl) jD) rfl (ck (.cons (cI ((by rw [mK O];omega))) .nil)) Tryz.underlying23 fY ix er mx rfl (by (simp;omega)) (dz rfl rfl) rfl rfl (fun p3=>?_))
     refine U 840051 ?_
     refine cU ((X++[UInt8.ofNat (16 * hv (l.getD i 0))],p3)) ?_ (h5:=?_) (h7:=?_)
     ·exact ⟨hS.push O,hx1⟩
     ·exact .cons (cO (by simp)) .nil
     ·exact .blk (by simp) (fun j hj=>I) .nil
    refine U 60000011200 ?_;refine jq (dU (i:=(i / 2)) (hz:=by omega)) ?_;refine U 9800000150 ?_;refine jq (dU (i:=(i / 2)) (hz:=by omega)) ?_
    refine aq (bo 1 (bc (X.set (i / 2) (bx (l.getD (i-1) 0) (l.getD i 0)))) ?_ ?_)
    ·exact (fun j hj=>vM (by unfold bx;rw [mK (by have:=GU (l.getD (i-1) 0);omega),hS.2.2 O,mK (by have:=GU (l.getD (i-1) 0);omega)];omega) O j)
    refine U 84005 ?_
    refine cU ((X.set (i / 2) (bx (l.getD (i-1) 0) (l.getD i 0)),g)) ?_ (h5:=?_) (h7:=?_)
    ·exact ⟨hS.put O,hx1⟩
    ·exact .cons (cO (by simp)) .nil
    ·exact .blk (by simp) (fun j hj=>I) .nil
  ·rintro ⟨Y,g'⟩ ⟨hY,hx0⟩
   refine U 85191200 ?_
   refine aw ((i+1,Y,g')) ?_ ?_ (h5:=?_) (h7:=?_)
   ·exact ⟨by omega,hY,fun j hj=>by
     by_cases e:j=i
     ·subst e;exact hx0
     ·exact he j O⟩
   ·show l.length-(i+1)<l.length-i;omega
   ·exact .cons (cI O) (.cons I .nil)
   ·exact .same .nil
section
variable {P:Program} {G:Gh} {o:Oper} {env:List (Nat×CV)} {b0:Nat→CV} {H:List (Option Nat×bi)} {K:AS→Prop}
theorem Dt (w:World) (b k:Nat) {cur:Array Value} {ty:TypeId} (h:w.heap[b]?=some (.cells cur ty (0,0))):(w.freeze ⟨b,k,none⟩ 1).heap[b]?=some (.cells cur ty (k,k+1)):=by
 unfold World.freeze
 rw [YE jD]
 simp only [aex,h,if_true,awx]
 rfl
theorem Bu (w:World) (b k q:Nat) (hq:q≠b):(w.freeze ⟨b,k,none⟩ 1).heap[q]?=w.heap[q]?:=by
 unfold World.freeze
 rw [YE jD]
 simp only [aex]
 rw [YE (fun h=>hq h.symm)]
theorem Dr (w:World) (b k:Nat):(w.freeze ⟨b,k,none⟩ 1).heap.size=w.heap.size∧(w.freeze ⟨b,k,none⟩ 1).os=w.os∧(w.freeze ⟨b,k,none⟩ 1).tape=w.tape∧(w.freeze ⟨b,k,none⟩ 1).output=w.output:=by
 unfold World.freeze
 rw [YE jD]
 exact ⟨by simp,rfl,rfl,rfl⟩
theorem az.mark {St:Nat→Prop} {s:AS} {a:Act} {w:World} (h:az G St s a w) {i g n:Nat} {f:Nat→CV} (hH:s.H[i]?=some (some g,.blk n f)) {cur:Array Value} {ty:TypeId} (hc:w.heap[g]?=some (.cells cur ty (0,0))) (k:Nat) :
  (∀ b,St b→b≠g)∧az G (fun b=>St b∨b=g) ⟨s.env,s.b,s.H.set i (some g,.frz n f)⟩ a (w.freeze ⟨g,k,none⟩ 1):=by
 obtain ⟨fp,hp⟩:=h.hp
 have hlt:i<s.H.length:=(YJ.1 hH).1
 have hrep:=hp.rep i (some g) _ hH
 have hg:fp i g:=(hrep.1 g).2 rfl
 obtain ⟨hg1,hg2,hg3⟩:=hp.own i g hg
 have hnew:=Dt w g k hc
 have hold:∀ b,b≠g→(w.freeze ⟨g,k,none⟩ 1).heap[b]?=w.heap[b]?:=fun b hb=>Bu w g k b hb
 obtain ⟨hsz,ho,ht,hu⟩:=Dr w g k
 have hs:∀ b,St b→St b∨b=g:=fun _ h=>.inl h
 have hne:∀ b,St b→b≠g:=fun b hb e=>hg2 (e ▸ hb)
 have he:qS St w (w.freeze ⟨g,k,none⟩ 1):=⟨fun b cu ct cz hb hcu=>(hold b (hne b hb)).trans hcu,fun b cu t z hb=>by
  by_cases e:b=g
  ·subst e
   rw [hc] at hb
   cases hb
   exact ⟨cur,_,hnew,rfl⟩
  ·exact ⟨cu,z,(hold b e).trans hb,rfl⟩⟩
 refine ⟨hne,h.df.keep hs (fun b hb=>hold b (hne b hb)),h.sz,fun d=>ba.evo he hs _ _ (h.env d),⟨ho.trans h.un.os,ht.trans h.un.tape,hu.trans h.un.output,by rw [hsz];exact h.un.size,fun k hk hF=>?_,fun b cu t z hb=>?_⟩,fun b hb=>.inl (h.s1 b hb),fun b hb=>?_,fun b hb=>?_,?_,?_,fun q hq=>.inl (h.sg.1 q hq),fun x hx=>.inl (h.sg.2 x hx)⟩
 ·refine (hold k (fun e=>?_)).trans (h.un.block k hk hF)
  subst e
  rcases hg3 with h1|h1
  ·omega
  ·exact hF h1
 ·obtain ⟨cur',z',h1,h2⟩:=h.un.sh b cu t z hb
  obtain ⟨cur2,z2,h3,h4⟩:=he.sh b cur' t z' h1
  exact ⟨cur2,z2,h3,h4.trans h2⟩
 ·rcases hb with hb|rfl
  ·exact h.s2 b hb
  ·exact .inr hg3
 ·rw [hsz]
  rcases hb with hb|rfl
  ·exact h.s3 b hb
  ·exact hg1
 ·refine ⟨fun j b=>j≠i∧fp j b,fun j q r hj=>?_,fun j l b h1 h2=>hp.dis j l b h1.2 h2.2,fun j b h1=>?_,fun j hj b h1=>hp.out j (by simpa using hj) b h1.2⟩
  ·by_cases e:j=i
   ·subst e
    simp [hlt] at hj
    obtain ⟨rfl,rfl⟩:=hj
    obtain ⟨h0,cur',t',h1,h2,h3⟩:=hrep
    rw [hc] at h1
    cases h1
    exact ⟨fun b hb=>absurd rfl hb.1,.inr rfl,cur,ty,_,hnew,h2,fun m hm=>ba.evo he hs _ _ (h3 m hm)⟩
   ·rw [YZ (Ne.symm e)] at hj
    have e2:(fun b=>j≠i∧fp j b)=fp j:=funext fun b=>propext ⟨fun h=>h.2,fun h=>⟨e,h⟩⟩
    show r.rep G.al _ _ (fun b=>j≠i∧fp j b) q
    rw [e2]
    exact bi.rep_evo he hs (fun b hF=>hold b (fun e3=>e (hp.dis j i b hF (e3 ▸ hg)))) (hp.rep j q r hj)
  ·obtain ⟨h2,h3,h4⟩:=hp.own j b h1.2
   exact ⟨by rw [hsz];exact h2,fun hb=>hb.elim h3 fun hb=>h1.1 (hp.dis j i b h1.2 (hb ▸ hg)),h4⟩
 ·exact gc.keep h.sn (fun q hq=>hold q (hne q (h.sg.1 q hq))) (fun q hq=>hold _ (hne _ (h.sg.2 q hq)))
end
section
variable {P:Program} {G:Gh} {ops:Array Oper} {o:Oper} {s:AS} {K:AS→Prop} {t u:TypeId} {x y:Operand} {env:List (Nat×CV)} {b0:Nat→CV} {H:List (Option Nat×bi)}
theorem z6 {xs:Array Operand} {ats:Array TypeId} (ho:o.op=.call ⟨.builtin .copy,xs,ats⟩) {a:Act} {v:Value} {w w':World} (h:(Builtin.copy_ ats o.type (xs.map a.eval)).run P w=.ok v w'):(execOp a.eval o).run P w=.ok (.value v) w':=by
 simp [execOp,ho,resolve,invoke,builtin,h]
def Fw (off c:Nat) (f h:Nat→CV) (j:Nat):CV:=if off≤j∧j<off+c then h (j-off) else f j
theorem UB {e:TypeId} {i off n m k N:Nat} {g:Option Nat} {f h:Nat→CV} (ho:o.op=.call ⟨.builtin .copy,#[x,y],#[t,u]⟩) (hx:s.eval x=.os i g off n k) (hH:s.H[i]?=some (g,.blk N f)) (hN:off+n * k≤N)
  (hsrc:uf P G s y k m h) (hmn:m≤n) (h1:P.underlying t=some (.slice e)) (h5:(P.info? e).map (·.size)=some k)
  (F:Nat→CV) (hF:∀ j,j<N→aa (Fw off (m * k) f h j) (F j)) (hleaf:∀ j,j<m * k→iS (h j)=true) (hd:cq G o=true)
  (hK:K (s.with o.dst (.c (.int .i64 (m:Nat))) (s.H.set i (g,.blk N F)))):ug P G o s K:=fun St a w hr Q=>by
 obtain ⟨info,hi,hs⟩:=YM.1 h5
 obtain ⟨news,hnl,hnr,hrun⟩:=hsrc St a w hr
 have he:=ji hr hx
 have hargs:(#[x,y]:Array Operand).map a.eval=#[a.eval x,a.eval y]:=by simp
 have put:∀ {w':World} {v:Value} {c:CV} {H:List (Option Nat×bi)},az G St ⟨s.env,s.b,H⟩ a w'→ba G.al St w' c v→az G St (s.with o.dst c H) (a.put o.dst v) w':=fun {w' v c H} h1 h2=>by
  have:=h1.put (dst:=o.dst) (eC hd) h2
  cases ho:o.dst with
  | none=>rw [ho] at this;exact this
  | some d=>rw [ho] at this;exact this
 have hmin:Nat.min m n=m:=bSx hmn
 cases g with
 | none =>
  obtain ⟨hn0,ev⟩:=he
  subst hn0
  have hm0:m=0:=by omega
  subst hm0
  have hrun':(Builtin.copy_ #[t,u] o.type #[a.eval x,a.eval y]).run P w=.ok (.int .i64 ((0:Nat):Int)) w:=by
   rw [ev]
   simp [Builtin.copy_,underlying,h1,(hrun w rfl).1,sizeOf,typeInfo,hi,hs,(hrun w rfl).2]
   rfl
  unfold Oper.wp
  rw [z6 ho (by rw [hargs];exact hrun')]
  refine ⟨eX.refl _ _,St,fun _ h=>h,_,hK,?_⟩
  have hlt:=(YJ.1 hH).1
  have hmv:az G St ⟨s.env,s.b,s.H.set i (none,.blk N F)⟩ a w:=by
   refine ⟨hr.df,hr.sz,hr.env,hr.un,hr.s1,hr.s2,hr.s3,?_,hr.sn,hr.sg⟩
   obtain ⟨fp,hp⟩:=hr.hp
   refine ⟨fp,fun j q r hj=>?_,hp.dis,hp.own,fun j hj=>hp.out j (by simpa using hj)⟩
   by_cases hj2:j=i
   ·subst hj2
    simp [hlt] at hj
    obtain ⟨rfl,rfl⟩:=hj
    exact ⟨(hp.rep j none _ hH).1,(hp.rep j none _ hH).2⟩
   ·rw [YZ (Ne.symm hj2)] at hj
    exact hp.rep j q r hj
  exact put hmv rfl
 | some g =>
  obtain ⟨cap,ev,hle,hcap,hfit0⟩:=he
  obtain ⟨fp,hp⟩:=hr.hp
  obtain ⟨hb0,cur,ty,hh,hle2,hcell⟩:=hp.rep i (some g) _ hH
  have hmk:m * k≤n * k:=ZG _ hmn
  have hfit:off+news.length≤cur.size:=by omega
  have hone:∀ v ∈ news,v.oneCell'=true:=fun v hv=>by
   obtain ⟨j,hj,e⟩:=aYx.1 hv
   have h2:=hnr j O
   rw [show news.getD j undef=v by simp [List.getD,hj,e]] at h2
   exact sl (hleaf j O) h2
  have hst:=run_storeCells_at P g off ty news 0 cur w hh O hone
  simp only [Zt] at hst
  have hrun':(Builtin.copy_ #[t,u] o.type #[a.eval x,a.eval y]).run P w=.ok (.int .i64 (m:Nat)) (w.setRow g (cur.toList.take off++news++cur.toList.drop (off+news.length)).toArray):=by
   rw [ev]
   simp [Builtin.copy_,underlying,h1,(hrun w rfl).1,hmin,sizeOf,typeInfo,hi,hs,(hrun w rfl).2,hst]
   rfl
  unfold Oper.wp
  rw [z6 ho (by rw [hargs];exact hrun')]
  refine ⟨fun q hq=>setRow_other w g q _ (fun e=>(hp.own i g ((hb0 g).2 rfl)).2.1 (e ▸ hq)),St,fun _ h=>h,_,hK,?_⟩
  have hw:=hr.write hH hh (cs:=(cur.toList.take off++news++cur.toList.drop (off+news.length)).toArray) (by simp;omega) (n':=N) (f':=F) (by simp;omega) (fun j hj=>by
   refine hF j hj _ _ _ _ ?_
   rw [wj cur news off hfit]
   unfold Fw
   by_cases h3:off≤j∧j<off+m * k
   ·rw [YF h3,jP];exact hnr _ O
   ·rw [YE h3,jK];exact hcell j O)
  exact put hw rfl
end
section
variable {P:Program} {G:Gh} {o:Oper} {K:AS→Prop} {env:List (Nat×CV)} {b0:Nat→CV} {H:List (Option Nat×bi)}
theorem S9 {t u:TypeId} {x y:Operand} {i off n N d:Nat} {g:Option Nat} {f:Nat→CV} (L:Z) (F:Nat→CV) (hF:∀ j,j<N→aa (Fw off L.length f (bc L) j) (F j)) (hK:K ⟨(d,.c (.int .i64 (L.length:Nat)))::env,b0,H.set i (g,.blk N F)⟩)
  (hsrc:uf P G ⟨env,b0,H⟩ y 1 L.length (bc L)) (ho:o.op=.call ⟨.builtin .copy,#[x,y],#[t,u]⟩:=by exact rfl) (hx:(⟨env,b0,H⟩:AS).eval x=.os i g off n 1:=by exact rfl) (hH:H[i]?=some (g,.blk N f):=by exact rfl) (hN:off+n * 1≤N:=by omega) (hmn:L.length≤n:=by omega)
  (h1:Bj P t 1=true:=by kernel_rfl) (hd:o.dst=some d:=by exact rfl) (hdN:Nat.blt d G.N=true:=by exact rfl):ug P G o ⟨env,b0,H⟩ K:=by
 obtain ⟨e,h2,h5⟩:=nT h1
 refine UB ho hx hH hN hsrc hmn h2 h5 F (by rw [Ze];exact hF) (fun j hj=>rfl) (by unfold cq;rw [hd];exact hdN) ?_
 rw [hd]
 exact hK
theorem La {s:AS} {y:Operand} {L:Z} (hy:s.eval y=aV L):uf P G s y 1 L.length (bc L):=by
 have:=ew (P:=P) (G:=G) (k:=1) hy
 have e:(fun j=>(fun i _=>bc L i) (j / 1) (j % 1))=bc L:=by funext j;show bc L (j / 1)=_;rw [ZN]
 rw [← e]
 exact this
end
section
variable {P:Program} {G:Gh} {o:Oper} {s:AS} {t:TypeId} {x y:Operand} {k:IntKind}
theorem IA {e:TypeId} {len n i:Nat} {f:Nat→CV} {v:CV} {z:Int} (ho:o.op=.index t x y) (hx:s.eval x=.agg n f) (hy:s.eval y=.c (.int k z)) (h1:P.underlying t=some (.array len e)) (h3:P.underlying e=some (.int .u8)) (h5:(P.info? e).map (·.size)=some 1)
  (hz:z=(i:Int)) (hi:i<len) (hn:i<n) (hv:f i=v):ci P G o s v:=fun St a w h=>by
 obtain ⟨info,h5i,h6⟩:=YM.1 h5
 obtain ⟨cs,e',hn',hf⟩:=ji h hx
 refine ⟨cs.getD i undef,fun W _=>?_,hv ▸ hf _ hn⟩
 simp only [execOp,ho,e',kM h hy]
 refine lY ?_
 subst hz
 have:i<cs.size:=by omega
 have h4:iw P e=false:=by unfold iw;rw [h3]
 simp [Instr.index,asIntOf,underlying,h1,hi,part,lh h3,h4,sizeOf,typeInfo,h5i,h6,this]
def Ny (P:Program) (t:TypeId) (n:Nat):Bool:=match P.underlying t with
 | some (.array k e)=>(match P.underlying e,(P.info? e).map (·.size) with|some (.int .u8),some 1=>Nat.beq k n|_,_=>false)
 | _=>false
theorem Nw {t:TypeId} {n:Nat} (h:Ny P t n=true):∃ e,P.underlying t=some (.array n e)∧P.underlying e=some (.int .u8)∧(P.info? e).map (·.size)=some 1:=by
 unfold Ny at h
 split at h
 ·rename_i q e he
  split at h
  ·rename_i h1 h2;exact ⟨e,by rw [he,Zm h],h1,h2⟩
  ·cases h
 ·cases h
theorem WA (len:Nat) {i n:Nat} {f:Nat→CV} {v:CV} {z:Int} (ho:o.op=.index t x y:=by exact rfl) (hx:s.eval x=.agg n f:=by exact rfl) (hy:s.eval y=.c (.int k z):=by exact rfl) (hv:f i=v:=by first|exact nU rfl|exact rx rfl) (hz:z=(i:Int):=by first|exact rfl|exact wP O)
  (hi:i<len:=by first|decide|omega|(dsimp only at *;omega)) (hn:i<n:=by first|decide|omega|(dsimp only at *;omega)) (hT:Ny P t len=true:=by kernel_rfl):ci P G o s v:=by
 obtain ⟨e,h1,h3,h5⟩:=Nw hT
 exact IA ho hx hy h1 h3 h5 hz hi hn hv
end
theorem SB:∀ c:Fin 256,IntKind.u8.wrap (BitVec.ofInt (IntKind.bits .u8) ((c.val:Nat):Int) &&& BitVec.ofInt (IntKind.bits .u8) 15).toNat=((c.val % 16:Nat):Int):=by decide +kernel
theorem Vs (c:UInt8):IntKind.u8.wrap (BitVec.ofInt (IntKind.bits .u8) ((c.toNat:Nat):Int) &&& BitVec.ofInt (IntKind.bits .u8) 15).toNat=((c.toNat % 16:Nat):Int):=SB ⟨c.toNat,c.toNat_lt⟩
theorem V5 (n:Nat):((n:Nat):Int).fdiv (2 ^ min (Int.toNat 4) (IntKind.bits .u8))=((n / 16:Nat):Int):=by
 show Int.fdiv _ (16:Int)=_
 rw [Zz _ jD]
 omega
theorem iF {b:Z} {i:Nat} (h:i<b.length):bg (b.take (i+1))=bg (b.take i)++[hx ((b.getD i 0).toNat / 16),hx ((b.getD i 0).toNat % 16)]:=by
 rw [YO h,Fq]
 simp [List.getD,h]
theorem NY:∀ k:Fin 16,iu.getD k.val 0=hx k.val:=by decide
theorem GV {k:Nat} (h:k<16):iu.getD k 0=hx k:=NY ⟨k,h⟩
theorem U3 (f:Nat→CV) {n j:Nat} (h:j<n):fl (List.map f (List.range n)) j=f j:=by rw [dJ];simp [List.getD,h]
theorem GZ {gs:List Nat} (b:Z) (hb:b.length=32):cc gs Tryz.prog 132 [.agg 32 (bc b)] (an (bg b)):=by
 refine aj 22 Tryz.func132 fun al w0 F0 St0=>?_;refine dP ?_
 refine au (ff 32 fun p1=>?_)
 refine U 51 ?_;refine jE (eE 0 (m:=32) (F:=bc b) rfl jD (fun _=>rfl) (fun j hj=>aa.of_eq (U3 _ hj))) ?_;refine U 67516 ?_;refine gw (bq 32) ?_;refine U 2051 ?_;refine jE (mj 3 1 (bc []) rfl) ?_;refine jE (aS 6 (.agg 32 (bc b)) (aa.agg rfl fun j hj=>aa.of_eq (by rw [Nat.zero_add]))) ?_;refine ax (α:=Nat×Option Nat) [3,5,7,8,9,10,11,12,13,14,15,16,17,18,19] (fun (i,g)=>[(7,.c (.int .i64 (i:Nat))),(3,.os 1 g 0 (bg (b.take i)).length 1)]) (fun (i,g)=>[(p1,.blk 32 (bc b)),(g,.blk (bg (b.take i)).length (bc (bg (b.take i))))]) (fun (i,g)=>i≤32) (fun (i,g)=>32-i) ((0,none)) ?_ (fun _=>rfl) ?_ ?_ ?_
 ·exact YT _
 ·exact .cons I (.cons (cO rfl) .nil)
 ·exact aP.refl _
 ·rintro ⟨i,g⟩ (hi:i≤32)
  have hbl:=(b.getD i 0).toNat_lt
  have hfl:(bg (b.take i)).length≤64:=by rw [eP,YS];omega
  refine U 7526 ?_;refine ap (fun h124=>?_) fun h124=>?_
  rotate_left
  ·refine U 84000200020006000 ?_
   have hil:i=b.length:=by omega
   refine U 16 ?_;refine gw Ns ?_;refine U 8000700051 ?_
   rw [hil,Za];exact I
  refine U 6207810 ?_;refine jq (WA 32) ?_;refine U 51 ?_;refine lM 8 (.rd 0 (.rd 1 (.rd 2 (.rd 3 (.rd 4 (.rd 5 (.rd 6 (.one 7 .done)))))))) ?_;refine U 7070 ?_;refine aM (jI rfl rfl rfl (by (omega)) ((((b.getD i 0).toNat / 16:Nat):Int)) ((V5 _))) ?_;refine aM (Bk (i:=((b.getD i 0).toNat / 16)) (hz:=by omega) (hS:=by (show _<16;omega))) ?_;refine U 70 ?_;refine aM (mI rfl rfl rfl ((((b.getD i 0).toNat % 16:Nat):Int)) ((Vs _))) ?_;refine aM (Bk (i:=((b.getD i 0).toNat % 16)) (hz:=by omega) (hS:=by (show _<16;omega))) ?_
  refine ir (aY 2 1 er fun p2=>?_)
  refine xP ?_
  show cJ _ _ _ _ _ _
  refine aq (aR (l2:=[hx ((b.getD i 0).toNat / 16),hx ((b.getD i 0).toNat % 16)]) rfl rfl rfl (YG _) (fun _ _=>I) (aW rfl (.inl rfl) jD) rfl (ck (.cons (cI ((by rw [← GV O];rfl))) (.cons (cI ((by rw [← GV O];rfl))) .nil))) Tryz.underlying23 fY ix er mx rfl (by (simp;omega)) (dz rfl rfl) rfl rfl (fun p3=>?_))
  refine U 8519200840051 ?_
  refine aw ((i+1,p3)) ?_ ?_ (h5:=?_) (h7:=?_)
  ·show i+1≤32;omega
  ·show 32-(i+1)<32-i;omega
  ·exact .cons (cI O) (.cons (cO (by rw [iF O];done)) .nil)
  ·exact .same (.blk (by rw [iF O];done) (fun j hj=>aa.of_eq (by rw [iF O])) .nil)
theorem CD (n j:Nat) (hj:j<n) (v u:Value):(List.replicate n v).toArray.getD j u=v:=by simp [hj]
theorem Tv (j:Nat) (hj:j<32):aa (.c ((Value.agg #[.int .u8 0,.int .u8 0,.int .u8 0,.int .u8 0,.int .u8 0,.int .u8 0,.int .u8 0,.int .u8 0,.int .u8 0,.int .u8 0,.int .u8 0,.int .u8 0,.int .u8 0,.int .u8 0,.int .u8 0,.int .u8 0,.int .u8 0,.int .u8 0,.int .u8 0,.int .u8 0,.int .u8 0,.int .u8 0,.int .u8 0,.int .u8 0,.int .u8 0,.int .u8 0,.int .u8 0,.int .u8 0,.int .u8 0,.int .u8 0,.int .u8 0,.int .u8 0]).cells.getD j undef)) (.c (.int .u8 0)):=by
 show aa (.c ((List.replicate 32 (Value.int .u8 0)).toArray.getD j undef)) _
 exact aa.of_eq (Y3 CV.c (CD 32 j hj _ _))
theorem Mk {b:Z} (hb:b.length=16) {f:Nat→CV} (hf:∀ j,j<32→aa (f j) (.c (.int .u8 0))) (j:Nat) (hj:j<32):aa (Fw 0 b.length f (bc b) j) (bc (b++List.replicate 16 0) j):=by
 unfold Fw
 by_cases h:j<16
 ·rw [jP,ZP]
  refine aa.of_eq ?_
  unfold bc
  simp [List.getD,YL (show j<b.length by omega)]
 ·rw [jK]
  have e:bc (b++List.replicate 16 0) j=.c (.int .u8 0):=by
   unfold bc
   rw [YH,YX O,ZL]
   split <;> rfl
  rw [e]
  exact hf j hj
theorem Od {b:Z} (hb:b.length=16):(bg (b++List.replicate 16 0)).take 32=bg b:=by
 have h1:bg (b++List.replicate 16 0)=bg b++bg (List.replicate 16 0):=by unfold bg;rw [Z3,ZY]
 rw [h1,aLx (by rw [eP];omega),Y0 (by rw [eP];omega)]
theorem MN {gs:List Nat} [gQ gs] (b:Z):cc gs Tryz.prog 67 [aV b] (.tup 2 (fl [an (if b.length=16 then bg b else []),.err (if b.length=16 then 0 else 4)])):=by
 refine aj 15 Tryz.func67 fun al w0 F0 St0=>?_;refine U 5231675116 ?_;refine ap (fun h115=>?_) fun h115=>?_
 ·refine gY ?_;refine dY (.rd 0 (.rd 1 (.rd 2 .done))) ?_;refine U 80003000700088070704000000 ?_
  rw [jK,jK];exact cT I (aa.errN rfl)
 refine U 810 ?_
 have h16:b.length=16:=by omega
 have hfl:(bg (b++List.replicate 16 0)).length=64:=by rw [eP,YI,avx,h16]
 refine dP ?_
 refine au (cl (n:=32) iJ rfl fun p1=>?_)
 refine U 65 ?_;refine jq (iN rfl rfl (.inl rfl) jD Tryz.underlying129 ix (bG _ _) (bG _ _) (by (omega)) (by (omega)) (by (omega)) rfl) ?_;refine U 1 ?_
 refine aq (S9 (b) (bc (b++List.replicate 16 0)) (fun j hj=>Mk h16 Tv j hj) ?_ (La rfl))
 refine U 65 ?_;refine gw (bq 32) ?_
 refine au (ar (GZ (b++List.replicate 16 0) (by rw [YI,h16,avx])) ?_ (ho:=rfl) (he:=(.cons (se rfl (aa.agg rfl fun j hj=>aa.of_eq (by rw [Nat.zero_add]))) .nil)))
 refine jq (rf rfl rfl Tryz.underlying9 rfl (show (32:Int)=((32:Nat):Int) from rfl) (by (omega))) ?_;refine U 80007000511 ?_
 rw [YF h16,YF h16,Od h16];exact cT I (aa.nilE rfl)
section
open Go.RowKit Cal
section
variable {P:Program} {G:Gh} {o:Oper} {s:AS} {t u:TypeId} {x y:Operand} {a b:Z}
theorem T7 {a b:ByteArray} (ho:o.op=.binOp .leq t x y u) (hx:s.eval x=.c (.string a)) (hy:s.eval y=.c (.string b)):ci P G o s (.c (.bool (Op.bytesLess a.toList b.toList || a.toList == b.toList))) :=
 dH ho hx hy fun W=>by simp [jw,ql,binOp,Op.stringOp]
theorem T8 (ho:o.op=.binOp .leq t x y u) (hx:s.eval x=an a) (hy:s.eval y=an b):ci P G o s (.c (.bool (Op.bytesLess a b || a == b))):=by
 have:=T7 (P:=P) (G:=G) ho hx hy
 rwa [lA,lA] at this
end
theorem TR {gs:List Nat} (l:Z) (hl:l.length≤1000000):cc gs Tryz.prog 53 [an l] (.c (.bool (dV l))):=by
 refine aj 11 Tryz.func53 fun al w0 F0 St0=>?_;refine U 16516 ?_
 refine au (ar (Qo l hl) ?_)
 refine U 51165119009001 ?_
 refine jR eA
theorem Bg (a b:Z):(Op.bytesLess a b || a == b)=!(Op.bytesLess b a):=by
 have h:=UW a b
 have hs:=fy a b
 rw [← bLx (Op.bytesLess a b || a == b),h,← qt b a]
 congr 1
 exact decide_eq_decide.2 O
theorem Ma {gs:List Nat} (l:YD):cc gs Tryz.prog 54 [sX l] (.c (.bool (sT l))):=by
 refine aj 32 Tryz.func54 fun al w0 F0 St0=>?_;refine U 523167516 ?_;refine ap (fun h23=>?_) fun h23=>?_
 ·refine U 800030007000516 ?_;refine cB ?_
  unfold sT
  rw [Zl O,bcx]
 refine U 20513167810 ?_;refine ax (α:=Nat) [2,3,4,10,11,12,13,14,15,16,17,18,19,20,21,22,23,24,25,26,27,28,29,30,31] (fun i=>[(10,.c (.int .i64 (i:Nat)))]) (fun _=>[]) (fun i=>i≤l.length∧i5 l i=true) (fun i=>l.length-i) (0) ?_ (fun _=>rfl) ?_ ?_ ?_
 ·exact ⟨YT _,rfl⟩
 ·(repeat (first|exact bz.nil|refine bz.cons I ?_))
 ·(repeat (exact aP.nil))
 ·rintro i ⟨(hi:i≤l.length),hr⟩
  refine U 7526 ?_;refine ap (fun h26=>?_) fun h26=>?_
  rotate_left
  ·refine U 8000700051684000200020006000 ?_;refine cB ?_
   have hil:i=l.length:=by omega
   unfold sT
   rw [← hil,hr,Zj O]
   rfl
  refine U 165116070016207810 ?_
  refine au (ar (tc (l.getD i [])) ?_)
  refine U 130 ?_;refine aK 18 (fun g27=>?_) fun g27=>?_
  ·refine U 80003000500030003000500070005169000510000000044444444444 ?_;refine cB ?_
   have ho:Ei l i=false:=by
    unfold Ei
    (simp_all;done)
   unfold sT
   rw [wo ho O,ZJ]
  refine U 121 ?_;refine aK 21 (fun g27_2=>?_) fun g27_2=>?_
  rotate_left
  ·refine U 851920084001030055005004444444 ?_;refine aw (i+1) ?_ ?_
   ·refine ⟨by omega,?_⟩
    show (i5 l i && Ei l i)=true
    rw [hr,Zr]
    unfold Ei
    (simp_all;done)
   ·show l.length-(i+1)<l.length-i;omega
  refine U 9111 ?_;refine jq (dU (i:=(i-1)) (hz:=by omega)) ?_;refine U 60 ?_;refine jq (T8 rfl rfl rfl) ?_;refine U 5500100000000 ?_;refine ap (fun h27=>?_) fun h27=>?_
  ·refine U 8000300050003000300050007000516 ?_;refine cB ?_
   have ho:Ei l i=false:=by
    unfold Ei
    (rw [Bg] at h27;simp_all;omega)
   unfold sT
   rw [wo ho O,ZJ]
  refine U 8519200840010 ?_;refine aw (i+1) ?_ ?_
  ·refine ⟨by omega,?_⟩
   show (i5 l i && Ei l i)=true
   rw [hr,Zr]
   unfold Ei
   (rw [Bg] at h27;simp_all;done)
  ·show l.length-(i+1)<l.length-i;omega
theorem wV (a b:Z):Op.bytesLess a b=true↔Op.bytesLess b a=false∧b≠a:=by
 have h1:=Bg a b
 have h2:=Bg a a
 constructor
 ·intro h
  rw [h,Bool.true_or] at h1
  refine ⟨by simpa using h1.symm,fun e=>?_⟩
  subst e
  rw [h] at h2
  simp at h2
 ·rintro ⟨h3,h4⟩
  rw [h3] at h1
  simp only [bwx,Zx,ZZ] at h1
  rcases h1 with h|h
  ·exact h
  ·exact absurd h.symm h4
theorem Cw {l:YD}:∀ {i:Nat},(∀ j,j<i→Ei l j=true)→i5 l i=true
 | 0,_=>rfl
 | i+1,h=>by
  unfold i5
  rw [Cw (fun j hj=>h j O),h i O]
  rfl
theorem Ak (l:YD):sT l=pa l:=by
 rw [axx]
 simp only [sT,pa,Le,G8,YK,pB,YP,aWx,Y8,ne_eq]
 constructor
 ·rintro ⟨h1,h2⟩
  have ho:=td h2
  have hb:∀ j,j<l.length-1→Op.bytesLess (l.getD j []) (l.getD (j+1) [])=true:=fun j hj=>by
   have:=ho (j+1) O
   unfold Ei at this
   simp only [YK,Zx,YP] at this
   rcases this.2 with h|h
   ·omega
   ·exact h
  refine ⟨⟨⟨h1,fun j hj=>((wV _ _).1 (hb j hj)).1⟩,fun j hj=>((wV _ _).1 (hb j hj)).2⟩,fun x hx=>?_⟩
  obtain ⟨j,hj,rfl⟩:=acx hx
  have:=ho j hj
  unfold Ei at this
  rw [YK] at this
  simpa [List.getD,hj] using this.1
 ·rintro ⟨⟨⟨h1,h2⟩,h3⟩,h4⟩
  refine ⟨h1,Cw fun i hi=>?_⟩
  unfold Ei
  simp only [YK,Zx,YP]
  refine ⟨h4 _ (by simp [List.getD,hi]),?_⟩
  by_cases e:i=0
  ·exact .inl e
  ·obtain ⟨j,rfl⟩:∃ j,i=j+1:=⟨i-1,by omega⟩
   exact .inr ((wV _ _).2 ⟨h2 j O,h3 j O⟩)
def uF:Fd:=⟨3,1,253402300799⟩
theorem qO:u6 uF:=by unfold u6 uF;decide
structure iV (q:Q5):Prop where
 who:gg lS (B7 q.1)
 ky:gg xo (xO (fQ q.2.1))
 us:1≤q.2.2.1∧q.2.2.1≤15
 du:gg uF (xS q.2.2.2.1)
 n8:q.2.2.2.2.length≤8
 al:∀ t ∈ q.2.2.2.2,ay t 64=0
 hk:q.2.1.length=32∧q.2.1.all yd=true
theorem Kj {l:YD} (h:sT l=true):l.length≤8∧∀ t ∈ l,ay t 64=0:=by
 unfold sT at h
 rw [YK,YP] at h
 refine ⟨h.1,fun t ht=>?_⟩
 obtain ⟨j,hj,rfl⟩:=acx ht
 have ho:=td h.2 j hj
 unfold Ei at ho
 rw [YK] at ho
 have hl:kA (l[j])=true:=by simpa [List.getD,hj] using ho.1
 have hl:=tA hl
 exact mD hl.1 hl.2.1 (by have:=hl.2.2;omega)
theorem pr {q:Q5} (h:cA q=true):iV q:=by
 unfold cA at h
 rw [← Ak] at h
 simp only [YK,YP] at h
 obtain ⟨⟨⟨⟨⟨⟨⟨hw,h5⟩,hk⟩,u1⟩,u2⟩,d1⟩,d2⟩,ha⟩:=h
 have hk':=JE hk
 have lk:=lP q.2.1
 have ha':=Kj ha
 refine ⟨.inl ⟨rfl,rfl,hw⟩,.inr (.inr (.inl ⟨rfl,rfl,?_,?_⟩)),⟨u1,u2⟩,.inr (.inl ⟨.inl rfl,rfl,d1,d2⟩),ha'.1,ha'.2,hk'⟩
 ·show (16:Int)≤((fQ q.2.1).length:Nat);omega
 ·show ((fQ q.2.1).length:Nat)≤(16:Int);omega
def Pq (us:Int):Z:=bL 3 (dD us.toNat)
def FM (l:YD):Z:=(l.map yh).flatten
def SU (q:Q5):Z:=bL 48 (FM q.2.2.2.2)++[]
def SW (q:Q5):Z:=fR uF (xS q.2.2.2.1)++SU q
def QV (q:Q5):Z:=Pq q.2.2.1++SW q
def Mc (q:Q5):Z:=fR xo (xO (fQ q.2.1))++QV q
def xZ (q:Q5):Z:=fR lS (B7 q.1)++Mc q
def dL (q:Q5):Z:=bL 48 (xZ q)
theorem rK {us:Int} (hu:1≤us∧us≤15):(dD us.toNat).length≤10:=by
 have e:=tQ (m:=us.toNat) O
 have h8:=(qc (i:=us.toNat) O).2.1
 have hb:bl us.toNat=ip us.toNat:=by unfold bl;rw [jK]
 omega
theorem rL {l:YD} (h8:l.length≤8) (h:∀ t ∈ l,ay t 64=0):(FM l).length≤640:=by
 have:=JN h
 unfold FM
 omega
section
variable {q:Q5}
theorem k8 (h:iV q):(xZ q).length≤20000∧(dL q).length≤20100:=by
 have a1:=(lc nM h.who).1
 have a2:=(lc sb h.ky).1
 have a3:=(lc qO h.du).1
 have a8:=rK h.us
 have a9:=rL h.n8 h.al
 have b1:=ez 3 (dD q.2.2.1.toNat)
 have b2:=ez 48 (FM q.2.2.2.2)
 have b4:=ez 48 (xZ q)
 have hR:(xZ q).length≤20000:=by
  unfold xZ Mc QV SW SU Pq
  simp only [YI,List.length_nil]
  omega
 refine ⟨hR,?_⟩
 unfold dL
 omega
end
def W9:W8:=di 48 SN
def Vz (q:Q5):W8:=mh lS (B7 q.1) W9
def ST (q:Q5):W8:=mh xo (xO (fQ q.2.1)) (Vz q)
def Un (q:Q5):W8:=mr (TE q.2.2.1) (ST q)
def QU (q:Q5):W8:=mh uF (xS q.2.2.2.1) (Un q)
def Um (q:Q5):W8:=dN (tW (QU q) q.2.2.2.2 q.2.2.2.2.length)
def Ul (q:Q5):W8:=dN (Um q)
def Yc:R8:=oI (w1 48) Xj
def XW (q:Q5):R8:=wg lS (B7 q.1) Yc
def XV (q:Q5):R8:=wg xo (xO (fQ q.2.1)) (XW q)
def XU (q:Q5):R8:=oI (TE q.2.2.1) (XV q)
def Xs (q:Q5):R8:=wg uF (xS q.2.2.2.1) (XU q)
def XT (q:Q5):R8:=oI w2 (W7 (Xs q) q.2.2.2.2 q.2.2.2.2.length)
def Yb (q:Q5):R8:=oI w2 (XT q)
section
variable {q:Q5}
theorem U2 {us:Int} (hu:1≤us∧us≤15) {t:Int} {ls:YD} {fr:List (Int×YD)} {d:Z}:mr (TE us) ⟨(t,ls)::fr,d,0⟩=⟨(t,ls++[Pq us])::fr,d,0⟩:=by
 rw [BC (v:=TE us) (by show (3:Int)≤10∧(10:Int)≤10;decide)]
 have hF:=rK hu
 have e:bp (TE us)=(3,dD us.toNat,0):=by
  show ((3:Int),nt us,sS us)=_
  unfold nt sS
  rw [jK,jK]
 rw [e,rg rfl (show bI 3=true by decide) (by dsimp only;omega),mE]
 rfl
theorem Qu (h:iV q):jl (Ul q)=0∧uG (Ul q)=dL q:=by
 obtain ⟨l1,l3⟩:=k8 h
 have hT:=rL h.n8 h.al
 have e1:Vz q=⟨[(48,[fR lS (B7 q.1)])],[],0⟩:=by unfold Vz W9;rw [show di 48 SN=⟨[(48,[])],[],0⟩ from rfl,A3 nM h.who jD];rfl
 have e2:ST q=⟨[(48,[fR lS (B7 q.1),fR xo (xO (fQ q.2.1))])],[],0⟩:=by unfold ST;rw [e1,A3 sb h.ky jD];rfl
 have e3:Un q=⟨[(48,[fR lS (B7 q.1),fR xo (xO (fQ q.2.1)),Pq q.2.2.1])],[],0⟩:=by unfold Un;rw [e2,U2 h.us];rfl
 have e4:QU q=⟨[(48,[fR lS (B7 q.1),fR xo (xO (fQ q.2.1)),Pq q.2.2.1,fR uF (xS q.2.2.2.1)])],[],0⟩:=by unfold QU;rw [e3,A3 qO h.du jD];rfl
 have e5:Um q=⟨[(48,[fR lS (B7 q.1),fR xo (xO (fQ q.2.1)),Pq q.2.2.1,fR uF (xS q.2.2.2.1),bL 48 (FM q.2.2.2.2)])],[],0⟩:=by
  unfold Um
  rw [e4,KU h.al jD _ (YG _),Za,pz jD jD (by unfold FM at hT;omega),mE]
  rfl
 have e9:Ul q=⟨[],dL q,0⟩:=by
  unfold Ul
  have ef:[fR lS (B7 q.1),fR xo (xO (fQ q.2.1)),Pq q.2.2.1,fR uF (xS q.2.2.2.1),bL 48 (FM q.2.2.2.2)].flatten=xZ q:=by
   unfold xZ Mc QV SW SU
   simp only [Zv,aKx]
  rw [e5,pz jD jD (by rw [ef];omega),ef]
  rfl
 have hz:jl (⟨[],dL q,0⟩:W8)=0:=by
  unfold jl
  rw [YE (by simp),YE (by simp),YE (by dsimp only;omega)]
 rw [e9]
 refine ⟨hz,?_⟩
 unfold uG
 rw [YF hz]
theorem Tf {m:Nat} {r:R8} {w:W8} (h:gP m r w):gP (m+1) (oI w2 r) (dN w):=by
 have:=mL h vW
 rw [Aa] at this
 exact this
theorem NL {m:Nat} {r:R8} {w:W8} (h:gP m r w) {l:YD} (hg:∀ t ∈ l,ay t 64=0):∀ i,i≤l.length→gP (m+1+i) (W7 r l i) (tW w l i)
 | 0,_=>by
  have:=mL h (mT (t:=48) jD)
  rw [sP] at this
  exact this
 | i+1,hi=>by
  have e:l.getD i []=l[i]'O:=by simp [List.getD,show i<l.length by omega]
  exact mL (NL h hg i O) (Lj (by rw [e];exact hg _ (ZS _)))
theorem NN {m n:Nat} {r:R8} {w:W8} (h:gP m r w) (hn:m≤n):gP n r w:=by
 obtain ⟨i1,i2,i3,i4⟩:=h
 exact ⟨i1,Zd i2 O,fun x hx=>⟨Zd (i3 x hx).1 O,Zd (i3 x hx).2 O⟩,i4⟩
theorem NJ (h:iV q):gP 15 (XW q) (Vz q):=tG nM h.who Tg
theorem NI (h:iV q):gP 29 (XV q) (ST q):=tG sb h.ky (NJ h)
theorem NH (h:iV q):gP 30 (XU q) (Un q):=mL (NI h) ⟨by have:=h.us;show _≤q.2.2.1∧q.2.2.1≤_;omega,by simp [TE],by simp [TE]⟩
theorem NG (h:iV q):gP 44 (Xs q) (QU q):=tG qO h.du (NH h)
theorem Fj (h:iV q) (i:Nat) (hi:i≤q.2.2.2.2.length):gP (45+i) (W7 (Xs q) q.2.2.2.2 i) (tW (QU q) q.2.2.2.2 i):=NL (NG h) h.al i hi
theorem NF (h:iV q):gP 54 (XT q) (Um q):=Tf (NN (Fj h _ (YG _)) (by have:=h.n8;omega))
theorem UN (h:iV q):gP 55 (Yb q) (Ul q):=Tf (NF h)
theorem Og {us:Int} (hu:1≤us∧us≤15):FS 1 ((3:Int),dD us.toNat):=lu jD jD (by have:=rK hu;omega)
theorem KM {l:YD} (h8:l.length≤8) (h:∀ t ∈ l,ay t 64=0):FS 2 ((48:Int),FM l):=by
 have hT:=rL h8 h
 have e:((l.map fun t=>((12:Int),t)).map ny).flatten=FM l:=by
  unfold FM
  rw [Z9]
  rfl
 rw [← e]
 refine m9 (d:=1) jD jD jD (fun x hx=>?_) (by rw [e];omega)
 obtain ⟨t,ht,rfl⟩:=aBx.1 hx
 have:=gZ (h t ht)
 exact lu jD jD O
theorem tf (h:iV q):(aN (dL q)).2=0:=by
 obtain ⟨l1,l3⟩:=k8 h
 have hflat:([Kn lS (B7 q.1),Kn xo (xO (fQ q.2.1)),(3,dD q.2.2.1.toNat),Kn uF (xS q.2.2.2.1),(48,FM q.2.2.2.2)].map ny).flatten=xZ q:=by
  unfold xZ Mc QV SW SU Pq
  simp only [Zc,aAx,Zv,aKx]
  rfl
 have hL:FS 5 (48,xZ q):=by
  rw [← hflat]
  refine m9 (d:=4) jD jD jD (fun x hx=>?_) (by rw [hflat];omega)
  simp only [Zg,Zo,or_false] at hx
  rcases hx with rfl|rfl|rfl|rfl|rfl
  ·exact ((lc nM h.who).2.2).mono jD
  ·exact ((lc sb h.ky).2.2).mono jD
  ·exact (Og h.us).mono jD
  ·exact ((lc qO h.du).2.2).mono jD
  ·exact (KM h.n8 h.al).mono jD
 have e:ny (48,xZ q)=dL q:=rfl
 have hd:=zw hL jD (by rw [e];omega)
 rw [e] at hd
 exact hd
end
end
def mB (at_:Nat):Nat:=if at_=0 then 2147483727 else 2147483647
def pt (l:List Nat) (p:List Nat×Nat):List Nat×Nat:=if p.2≠0 then ([],p.2) else (l++p.1,0)
theorem MD {most:Nat} {b:Z} {e:Nat} (h:b≠[]) (he:(dM (b.take (bn b)) most).2=e) (h0:e≠0):dq most b=([],e):=by
 rw [dq,b0x h,he,YF h0]
theorem IX {most:Nat} {b:Z} {n:Nat} (h:b≠[]) (he:dM (b.take (bn b)) most=(n,0)):dq most b=pt [n] (dq 2147483647 (b.drop (bn b))):=by
 rw [dq,b0x h,he,YE (by simp)]
 unfold pt
 split <;> rfl
theorem JH (l:List Nat) (n:Nat) (p:List Nat×Nat):pt l (pt [n] p)=pt (l++[n]) p:=by
 unfold pt
 by_cases h:p.2≠0
 ·simp [h]
 ·simp [h]
theorem wb:∀ {l:Z},(∀ c ∈ l,128≤c.toNat)→bn l=l.length
 | [],_=>rfl
 | c::l,h=>by
  have:=h c Y2
  rw [bn,jK,wb fun d hd=>h d (Y7 _ hd)]
  simp;omega
theorem sf {b:Z} {a e:Nat} (he:e≤b.length) (h:∀ j,a≤j→j<e→128≤(b.getD j 0).toNat):∀ c ∈ (b.drop a).take (e-a),128≤c.toNat:=fun c hc=>by
 obtain ⟨k,hk⟩:=aVx.1 hc
 rw [ZV] at hk
 split at hk
 ·rename_i h1
  rw [afx] at hk
  have:=h (a+k) O O
  rw [YH,hk] at this
  exact this
 ·cases hk
theorem LA {b:Z} {a:Nat} (ha:a<b.length) (h:∀ j,a≤j→j<b.length→128≤(b.getD j 0).toNat) (most:Nat):(dM ((b.drop a).take (bn (b.drop a))) most).2=2:=by
 have hall:=sf (YG _) h
 rw [show (b.drop a).take (b.length-a)=b.drop a by rw [← YN,Za]] at hall
 rw [wb hall,Za]
 unfold dM
 have hl:0<(b.drop a).length:=by rw [YN];omega
 rw [YF (hall _ (by rw [YH,YR O];exact ZS _))]
theorem Gb {b:Z} {a e:Nat} (ha:a≤e) (he:e<b.length) (h:∀ j,a≤j→j<e→128≤(b.getD j 0).toNat) (hx:(b.getD e 0).toNat<128):bn (b.drop a)=e-a+1∧(b.drop a).take (e-a+1)=(b.drop a).take (e-a)++[b.getD e 0]:=by
 have hall:=sf O h
 have hge:(b.drop a)[e-a]?=some (b.getD e 0):=by
  rw [afx,show a+(e-a)=e by omega,YH,YR he];rfl
 have hlt:e-a<(b.drop a).length:=by rw [YN];omega
 have hd:b.drop a=(b.drop a).take (e-a)++b.getD e 0::(b.drop a).drop (e-a+1):=by
  conv=>lhs;rw [← Zu (e-a) (b.drop a)]
  rw [Y5 hlt]
  congr 2
  have:=YR hlt
  rw [hge] at this
  exact (Y9 this).symm
 refine ⟨?_,?_⟩
 ·rw [hd,wa hall _ hx,YS,YN]
  omega
 ·rw [YO hlt]
  congr 2
  have:=YR hlt
  rw [hge] at this
  exact (Y9 this).symm
theorem EU {b:Z} {a e:Nat} {most:Nat} (ha:a≤e) (he:e<b.length) (h:∀ j,a≤j→j<e→128≤(b.getD j 0).toNat) (hx:(b.getD e 0).toNat<128) :
  dM ((b.drop a).take (bn (b.drop a))) most=if (b.getD a 0).toNat=128 then (0,4) else if most<cX ((b.drop a).take (e-a+1)) then (0,1) else (cX ((b.drop a).take (e-a+1)),0):=by
 obtain ⟨h1,h2⟩:=Gb ha he h hx
 rw [h1]
 have hl:((b.drop a).take (e-a+1)).length=e-a+1:=by rw [YS,YN];omega
 have hlast:((b.drop a).take (e-a+1)).getD (((b.drop a).take (e-a+1)).length-1) 0=b.getD e 0:=by
  rw [hl,h2,YH,YX (by rw [YS,YN];omega),YS,YN]
  rw [show e-a+1-1-min (e-a) (b.length-a)=0 by omega]
  rfl
 have hfirst:((b.drop a).take (e-a+1)).getD 0 0=b.getD a 0:=by
  rw [YH,ZV,jP,afx,Zt,YH]
 unfold dM
 rw [hlast,hfirst,jK]
theorem KF {b:Z} {a k:Nat} (h:a+k<b.length):cX ((b.drop a).take (k+1))=cX ((b.drop a).take k) * 128+(b.getD (a+k) 0).toNat % 128:=by
 have hlt:k<(b.drop a).length:=by rw [YN];omega
 rw [YO hlt,gD,List.getElem_drop,YH,YR h]
 rfl
theorem yI {b:Z} {a k e n M:Nat} (he:e<b.length) (hk:a+k≤e) (hk2:k≤e-a+1) (h1:n≤M→cX ((b.drop a).take k)=n) (h2:M<n→M<cX ((b.drop a).take k)) (h3:n≤M * 128+127) :
  k+1≤e-a+1∧((if n≤M then n * 128+(b.getD (a+k) 0).toNat % 128 else n)≤M→cX ((b.drop a).take (k+1))=if n≤M then n * 128+(b.getD (a+k) 0).toNat % 128 else n) ∧
   (M<(if n≤M then n * 128+(b.getD (a+k) 0).toNat % 128 else n)→M<cX ((b.drop a).take (k+1)))∧(if n≤M then n * 128+(b.getD (a+k) 0).toNat % 128 else n)≤M * 128+127:=by
 rw [KF O]
 by_cases h:n≤M
 ·rw [YF h,h1 h]
  exact ⟨by omega,fun _=>rfl,fun h=>h,by omega⟩
 ·rw [YE h]
  have:=h2 O
  exact ⟨by omega,fun h=>by omega,fun _=>by omega,h3⟩
def oK (l:List Nat):List Int:=l.map Int.ofNat
theorem RV {b:Z} {e:Nat} (hb:b≠[]) (h:dq 2147483727 b=([],e)) (he:e≠0):fG b=([],e):=by
 unfold fG
 rw [YE hb,h,YF he]
theorem RU {b:Z} {l:List Nat} (hb:b≠[]) (h:dq 2147483727 b=(l,0)):fG b=if dj (cF l)=false then ([],1) else (cF l,0):=by
 unfold fG
 rw [YE hb,h,YE (by simp)]
theorem Bp {l:List Int} {j:Nat}:qC l (1+j)=qC (l.drop 1) j:=by simp [qC,YH,b4x 1 j]
structure VF (b:Z) (a:Nat) (nums:List Nat):Prop where
 le:a≤b.length
 n0:nums.length≤a
 ne:a≠0→nums≠[]
 bd:∀ n ∈ nums,n≤2147483727
 eq:dq 2147483727 b=pt nums (dq (mB a) (b.drop a))
theorem O7 (b:Z):VF b 0 []:=⟨YT _,YG _,fun h=>absurd rfl h,fun _ h=>by simp at h,by
 rw [bxx]
 show _=pt [] (dq 2147483727 b)
 unfold pt
 split
 ·rename_i h
  generalize hp:dq 2147483727 b=p at h ⊢
  obtain ⟨x,y⟩:=p
  have hx:x=[]:=by
   have hp':=hp
   rw [dq] at hp'
   split at hp'
   ·cases hp';rfl
   ·split at hp'
    ·cases hp';rfl
    ·split at hp'
     ·cases hp';rfl
     ·cases hp';exact absurd rfl h
  rw [hx]
 ·rename_i h
  generalize hp:dq 2147483727 b=p at h ⊢
  obtain ⟨x,y⟩:=p
  have:y=0:=by simpa using h
  rw [this];rfl⟩
theorem G6 {b:Z} {a:Nat} (h:a<b.length):b.drop a≠[]:=fun e=>by
 have:=Y3 List.length e
 rw [YN] at this
 simp at this;omega
theorem BL {b:Z} {a:Nat} {nums:List Nat} (h:VF b a nums) (ha:a<b.length) {e:Nat} (he:(dM ((b.drop a).take (bn (b.drop a))) (mB a)).2=e) (h0:e≠0):fG b=([],e):=by
 refine RV (fun hb=>by rw [hb] at ha;simp at ha) ?_ h0
 rw [h.eq,MD (G6 ha) he h0]
 unfold pt
 rw [YF h0]
theorem Re {r:Z} {most n:Nat} (h:dM r most=(n,0)):n≤most:=by
 unfold dM at h
 split at h
 ·cases h
 ·split at h
  ·cases h
  ·split at h
   ·cases h
   ·cases h;omega
theorem O8 {b:Z} {a e n:Nat} {nums:List Nat} (h:VF b a nums) (ha:a≤e) (he:e<b.length) (hj:∀ j,a≤j→j<e→128≤(b.getD j 0).toNat) (hx:(b.getD e 0).toNat<128) (hn:dM ((b.drop a).take (bn (b.drop a))) (mB a)=(n,0)):VF b (a+(e-a+1)) (nums++[n]):=by
 have hr:=(Gb ha he hj hx).1
 refine ⟨by omega,by rw [YI,ZC];have:=h.n0;omega,fun _ hh=>by simp at hh,fun m hm=>?_,?_⟩
 ·rcases akx.1 hm with hm|hm
  ·exact h.bd m hm
  ·rw [Zs.1 hm]
   have hmb:mB a≤2147483727:=by unfold mB;split <;> omega
   have hle:=Re hn
   omega
 rw [h.eq,IX (G6 O) hn,JH,ZX,hr]
 have hm:mB (a+(e-a+1))=2147483647:=by unfold mB;rw [jK]
 rw [hm]
theorem Im {gs:List Nat} (b:Z) (hb:b.length≤1000000):cc gs Tryz.prog 185 [aV b] (.tup 2 (fl [Ju (fG b).1,.c (.int .i64 ((fG b).2:Nat))])):=by
 refine aj 93 Tryz.func185 fun al w0 F0 St0=>?_;refine U 5231675116 ?_;refine ap (fun h88=>?_) fun h88=>?_
 ·refine U 5116 ?_
  refine jR (kq (eA (hv:=cT (by rw [show b=[] from Y1 O,xh];exact aa.nilS _ _) (cI (by rw [show b=[] from Y1 O,xh];rfl)))))
 refine U 6810 ?_
 refine au (aY 0 1 uh fun p1=>?_)
 refine U 20751651 ?_;refine ax (α:=Nat×List Nat×Option Nat) [2,3,4,5,6,7,8,15,16,17,18,19,20,21,22,23,24,25,26,27,28,29,30,31,32,33,34,35,36,37,38,39,40,41,42,43,44,45,46,47,48,49,50,51,52,53,54,55,56,57,58,59,60,61,62,63,64,65,66,67,68,69] (fun (a,nums,g)=>[(4,.os 0 g 0 (oK nums).length 1),(5,.c (.int .i64 (a:Nat)))]) (fun (a,nums,g)=>[(g,.blk (oK nums).length (qC (oK nums)))]) (fun p=>VF b p.1 p.2.1) (fun p=>b.length-p.1) ((0,[],p1)) ?_ (fun _=>rfl) ?_ ?_ ?_
 ·exact O7 b
 ·exact .cons (cO rfl) (.cons I .nil)
 ·exact .blk rfl (fun j hj=>absurd hj (YW j)) .nil
 ·rintro ⟨a,nums,g⟩ (hA:VF b a nums)
  show bj _ _ _ ⟨[(4,.os 0 g 0 (oK nums).length 1),(5,.c (.int .i64 (a:Nat)))],_,[(g,.blk (oK nums).length (qC (oK nums)))]⟩ _
  have hle:=hA.le
  have hnl:=hA.n0
  have hol:(oK nums).length=nums.length:=by simp [oK]
  refine U 5231167 ?_;refine ap (fun h93=>?_) fun h93=>?_
  rotate_left
  ·refine U 84000200020006000 ?_
   have hae2:a=b.length:=by omega
   have hb0:b≠[]:=fun h=>by rw [h] at hae2;simp at hae2;omega
   have hnn:nums≠[]:=hA.ne (fun h=>hb0 (Y1 O))
   obtain ⟨x,xs,rfl⟩:∃ x xs,nums=x::xs:=by
     cases nums with
     | nil=>exact absurd rfl hnn
     | cons x xs=>exact ⟨x,xs,rfl⟩
   have hok:dq 2147483727 b=(x::xs,0):=by
    rw [hA.eq,hae2,apx,dq,dif_pos rfl]
    simp [pt]
   have hxl:(oK (x::xs)).length=xs.length+1:=by simp [oK]
   have hx0:(oK (x::xs)).getD 0 0=(x:Int):=rfl
   have hxb:=hA.bd x Y2
   have hga:=RU hb0 hok
   refine jE (freeze 0 rfl) ?_;refine jE (oV 4 (oK (x::xs)) rfl rfl rfl (ZO (YG _)) (fun _ _=>I)) ?_;refine U 52602000000167516 ?_;refine ap (fun h120=>?_) fun h120=>?_
   ·refine U 7851200 ?_
    first
     |(have hF:((min (x / 40) 2:Nat):Int)=0:=by omega
       refine jE (aS 9 (.c (.int .i64 ((min (x / 40) 2:Nat):Int))) (cI O)) ?_)
     |(have hF:((min (x / 40) 2:Nat):Int)=1:=by omega
       refine jE (aS 9 (.c (.int .i64 ((min (x / 40) 2:Nat):Int))) (cI O)) ?_)
     |(have hF:((min (x / 40) 2:Nat):Int)=2:=by omega
       refine jE (aS 9 (.c (.int .i64 ((min (x / 40) 2:Nat):Int))) (cI O)) ?_)
    refine lM 10 (.rd 0 (.rd 1 (.rd 2 (.rd 3 (.rd 4 (.rd 5 (.rd 6 (.rd 8 (.rd 9 (.one 7 .done)))))))))) ?_;refine U 7070 ?_;refine aM (dU (i:=0)) ?_;refine U 7030000300007070000 ?_;refine aM (Jl (hl:=(cw rfl (show (1:Int)=((1:Nat):Int) from rfl))) (hu:=(bG _ _))) ?_
    refine ir (aY 2 1 uh fun p2=>?_)
    refine xP ?_
    show cJ _ _ _ _ _ _
    refine aq (aF pP (l:=[((min (x / 40) 2:Nat):Int),(x:Int)-40 * ((min (x / 40) 2:Nat):Int)]) (l2:=oK xs) rfl rfl rfl rfl (by simp) (fun j hj=>by rcases j with _|_|j <;> first|exact I|(exfalso;simp at hj;omega)) (ew rfl) (by simp [oK]) (fun j hj=>by simp only [ZN];exact aa.of_eq Bp) Tryz.underlying106 sd PZ uh So rfl (by simp [oK];omega) (by simp [oK];omega) (fun j hj=>rfl) rfl rfl (Ze _) (fun p3=>?_))
    refine U 7851 ?_;refine jE (freeze 1 rfl) ?_;refine jE (oV 10 (cF (x::xs)) rfl rfl rfl (ZO (YG _)) (fun _ _=>I)) ?_;refine U 16 ?_
    refine au (ar (ra (cF (x::xs))) ?_)
    refine U 530 ?_;refine ap (fun h126=>?_) fun h126=>?_
    ·refine U 8000300070005116 ?_
     have hb:fG b=([],1):=by rw [hga,YF (by simpa using h126)]
     rw [hb]
     exact cT (aa.nilS _ _) I
    refine U 8000700051116810 ?_
    have hb:fG b=(cF (x::xs),0):=by rw [hga,YE (by simpa using h126)]
    rw [hb]
    exact cT I I
   refine U 5260200000016 ?_;refine ap (fun h122=>?_) fun h122=>?_
   rotate_left
   ·refine U 7810 ?_
    first
     |(have hF:((min (x / 40) 2:Nat):Int)=0:=by omega
       refine jE (aS 9 (.c (.int .i64 ((min (x / 40) 2:Nat):Int))) (cI O)) ?_)
     |(have hF:((min (x / 40) 2:Nat):Int)=1:=by omega
       refine jE (aS 9 (.c (.int .i64 ((min (x / 40) 2:Nat):Int))) (cI O)) ?_)
     |(have hF:((min (x / 40) 2:Nat):Int)=2:=by omega
       refine jE (aS 9 (.c (.int .i64 ((min (x / 40) 2:Nat):Int))) (cI O)) ?_)
    refine lM 10 (.rd 0 (.rd 1 (.rd 2 (.rd 3 (.rd 4 (.rd 5 (.rd 6 (.rd 8 (.rd 9 (.one 7 .done)))))))))) ?_;refine U 7070 ?_;refine aM (dU (i:=0)) ?_;refine U 7030000300007070000 ?_;refine aM (Jl (hl:=(cw rfl (show (1:Int)=((1:Nat):Int) from rfl))) (hu:=(bG _ _))) ?_
    refine ir (aY 2 1 uh fun p2=>?_)
    refine xP ?_
    show cJ _ _ _ _ _ _
    refine aq (aF pP (l:=[((min (x / 40) 2:Nat):Int),(x:Int)-40 * ((min (x / 40) 2:Nat):Int)]) (l2:=oK xs) rfl rfl rfl rfl (by simp) (fun j hj=>by rcases j with _|_|j <;> first|exact I|(exfalso;simp at hj;omega)) (ew rfl) (by simp [oK]) (fun j hj=>by simp only [ZN];exact aa.of_eq Bp) Tryz.underlying106 sd PZ uh So rfl (by simp [oK];omega) (by simp [oK];omega) (fun j hj=>rfl) rfl rfl (Ze _) (fun p3=>?_))
    refine U 7851 ?_;refine jE (freeze 1 rfl) ?_;refine jE (oV 10 (cF (x::xs)) rfl rfl rfl (ZO (YG _)) (fun _ _=>I)) ?_;refine U 16 ?_
    refine au (ar (ra (cF (x::xs))) ?_)
    refine U 530 ?_;refine ap (fun h126=>?_) fun h126=>?_
    ·refine U 8000300070005116 ?_
     have hb:fG b=([],1):=by rw [hga,YF (by simpa using h126)]
     rw [hb]
     exact cT (aa.nilS _ _) I
    refine U 8000700051116810 ?_
    have hb:fG b=(cF (x::xs),0):=by rw [hga,YE (by simpa using h126)]
    rw [hb]
    exact cT I I
   refine U 7851200 ?_
   first
    |(have hF:((min (x / 40) 2:Nat):Int)=0:=by omega
      refine jE (aS 9 (.c (.int .i64 ((min (x / 40) 2:Nat):Int))) (cI O)) ?_)
    |(have hF:((min (x / 40) 2:Nat):Int)=1:=by omega
      refine jE (aS 9 (.c (.int .i64 ((min (x / 40) 2:Nat):Int))) (cI O)) ?_)
    |(have hF:((min (x / 40) 2:Nat):Int)=2:=by omega
      refine jE (aS 9 (.c (.int .i64 ((min (x / 40) 2:Nat):Int))) (cI O)) ?_)
   refine lM 10 (.rd 0 (.rd 1 (.rd 2 (.rd 3 (.rd 4 (.rd 5 (.rd 6 (.rd 8 (.rd 9 (.one 7 .done)))))))))) ?_;refine U 7070 ?_;refine aM (dU (i:=0)) ?_;refine U 7030000300007070000 ?_;refine aM (Jl (hl:=(cw rfl (show (1:Int)=((1:Nat):Int) from rfl))) (hu:=(bG _ _))) ?_
   refine ir (aY 2 1 uh fun p2=>?_)
   refine xP ?_
   show cJ _ _ _ _ _ _
   refine aq (aF pP (l:=[((min (x / 40) 2:Nat):Int),(x:Int)-40 * ((min (x / 40) 2:Nat):Int)]) (l2:=oK xs) rfl rfl rfl rfl (by simp) (fun j hj=>by rcases j with _|_|j <;> first|exact I|(exfalso;simp at hj;omega)) (ew rfl) (by simp [oK]) (fun j hj=>by simp only [ZN];exact aa.of_eq Bp) Tryz.underlying106 sd PZ uh So rfl (by simp [oK];omega) (by simp [oK];omega) (fun j hj=>rfl) rfl rfl (Ze _) (fun p3=>?_))
   refine U 7851 ?_;refine jE (freeze 1 rfl) ?_;refine jE (oV 10 (cF (x::xs)) rfl rfl rfl (ZO (YG _)) (fun _ _=>I)) ?_;refine U 16 ?_
   refine au (ar (ra (cF (x::xs))) ?_)
   refine U 530 ?_;refine ap (fun h126=>?_) fun h126=>?_
   ·refine U 8000300070005116 ?_
    have hb:fG b=([],1):=by rw [hga,YF (by simpa using h126)]
    rw [hb]
    exact cT (aa.nilS _ _) I
   refine U 8000700051116810 ?_
   have hb:fG b=(cF (x::xs),0):=by rw [hga,YE (by simpa using h126)]
   rw [hb]
   exact cT I I
  refine U 20810 ?_
  have ha:a<b.length:=by omega
  refine U 5116 ?_;refine dW (α:=Nat) [6,20,21,22,23,24,25,26,27,28,29,30,31,32] (fun e=>[(6,.c (.int .i64 (e:Nat)))]) (fun _=>[(g,.blk (oK nums).length (qC (oK nums)))]) (fun e=>(a≤e∧e≤b.length∧∀ j,a≤j→j<e→128≤(b.getD j 0).toNat)∧(e<b.length→(b.getD e 0).toNat<128)) (fun _=>rfl) ?_ ?_
  ·refine U 20 ?_;refine ax (α:=Nat) [6,20,21,22,23,24,25,26,27,28,29,30,31,32] (fun e=>[(6,.c (.int .i64 (e:Nat)))]) (fun _=>[(g,.blk (oK nums).length (qC (oK nums)))]) (fun e=>a≤e∧e≤b.length∧∀ j,a≤j→j<e→128≤(b.getD j 0).toNat) (fun e=>b.length-e) (a) ?_ (fun _=>rfl) ?_ ?_ ?_
   ·exact ⟨YG _,by omega,fun j h1 h2=>by omega⟩
   ·exact .cons I .nil
   ·exact aP.refl _
   ·rintro e ⟨(hae:a≤e),(hel:e≤b.length),(hj:∀ j,a≤j→j<e→128≤(b.getD j 0).toNat)⟩
    refine U 1231167 ?_;refine aK 24 (fun g95=>?_) fun g95=>?_
    rotate_left
    ·refine U 84000200020006000300550044444 ?_
     refine cU (e) ?_ (h5:=?_) (h7:=?_)
     ·exact ⟨⟨hae,hel,hj⟩,fun h=>by omega⟩
     ·exact .cons (cI O) .nil
     ·exact aP.refl _
    refine U 510000000026070011 ?_;refine ap (fun h95=>?_) fun h95=>?_
    rotate_left
    ·refine U 84000200020006000 ?_
     refine cU (e) ?_ (h5:=?_) (h7:=?_)
     ·exact ⟨⟨hae,hel,hj⟩,fun h=>by omega⟩
     ·exact .cons (cI O) .nil
     ·exact aP.refl _
    refine U 8400519120020810 ?_
    refine aw (e+1) ?_ ?_ (h5:=?_) (h7:=?_)
    ·exact ⟨by omega,by omega,fun j h1 h2=>if h:j<e then hj j h1 h else (by obtain rfl:j=e:=O;omega)⟩
    ·show b.length-(e+1)<b.length-e;omega
    ·exact .cons (cI O) .nil
    ·exact aP.refl _
  ·rintro e ⟨⟨(hae:a≤e),(hel:e≤b.length),(hj:∀ j,a≤j→j<e→128≤(b.getD j 0).toNat)⟩,hst⟩
   refine U 5231167 ?_;refine ap (fun h98=>?_) fun h98=>?_
   ·refine U 80003000500030005000300070005116 ?_
    first
     |(exfalso;omega)
     |(have hg:=BL hA ha (LA ha (fun j h1 h2=>hj j h1 O) (mB a)) jD
       rw [hg]
       exact cT (aa.nilS _ _) I)
   refine U 52607001167810 ?_;refine ap (fun h101=>?_) fun h101=>?_
   ·refine U 80003000500030005000300070005116 ?_
    first
     |(exfalso;omega)
     |(have hg:=BL hA ha (e:=4) (by rw [EU hae O hj O,jP]) jD
       rw [hg]
       exact cT (aa.nilS _ _) I)
   refine U 516810 ?_;refine dW (α:=Unit) [7,42,43,44,45] (fun _=>[(7,.c (.int .i64 (mB a:Nat)))]) (fun _=>[(g,.blk (oK nums).length (qC (oK nums)))]) (fun _=>True) (fun _=>rfl) ?_ ?_
   ·refine U 5216 ?_;refine ap (fun h105=>?_) fun h105=>?_
    rotate_left
    ·refine U 810 ?_
     refine cU (()) ?_ (h5:=?_) (h7:=?_)
     ·trivial
     ·first
      | exact .cons (cI (by unfold mB;rw [jP];rfl)) .nil
      | exact .cons (cI (by unfold mB;rw [jK];rfl)) .nil
     ·exact aP.refl _
    refine U 85191200 ?_
    refine cU (()) ?_ (h5:=?_) (h7:=?_)
    ·trivial
    ·first
     | exact .cons (cI (by unfold mB;rw [jP];rfl)) .nil
     | exact .cons (cI (by unfold mB;rw [jK];rfl)) .nil
    ·exact aP.refl _
   ·rintro u _
    have hmb:mB a≤2147483727:=by unfold mB;split <;> omega
    refine U 207516 ?_;refine ax (α:=Nat×Nat) [5,8,46,47,48,49,50,51,52,53,54,55,56,57,58,59,60,61,62] (fun (k,n)=>[(5,.c (.int .i64 ((a+k:Nat):Int))),(8,.c (.int .i64 (n:Nat)))]) (fun _=>[(g,.blk (oK nums).length (qC (oK nums)))]) (fun p=>p.1≤e-a+1∧(p.2≤mB a→cX ((b.drop a).take p.1)=p.2)∧(mB a<p.2→mB a<cX ((b.drop a).take p.1))∧p.2≤mB a * 128+127) (fun p=>e-a+1-p.1) ((0,0)) ?_ (fun _=>rfl) ?_ ?_ ?_
    ·exact ⟨YT _,fun _=>rfl,fun h=>absurd h (YW _),YT _⟩
    ·exact .cons I (.cons I .nil)
    ·exact aP.refl _
    ·rintro ⟨k,n⟩ ⟨(hk:k≤e-a+1),(hv1:n≤mB a→cX ((b.drop a).take k)=n),(hv2:mB a<n→mB a<cX ((b.drop a).take k)),(hv3:n≤mB a * 128+127)⟩
     show bj _ _ _ ⟨[(5,.c (.int .i64 ((a+k:Nat):Int))),(8,.c (.int .i64 (n:Nat)))],_,[(g,.blk (oK nums).length (qC (oK nums)))]⟩ _
     refine U 521167 ?_;refine ap (fun h109=>?_) fun h109=>?_
     rotate_left
     ·refine U 784000200020006000 ?_
      have hke:k=e-a+1:=by omega
      refine U 52116 ?_;refine ap (fun h114=>?_) fun h114=>?_
      ·refine U 80003000500030005000300070005116 ?_
       first
        |(exfalso;omega)
        |(have hg:=BL hA ha (e:=1) (by rw [EU hae O hj O,jK,YF (by rw [← hke];exact hv2 O)]) jD
          rw [hg]
          exact cT (aa.nilS _ _) I)
      refine U 810 ?_
      have hnum:dM ((b.drop a).take (bn (b.drop a))) (mB a)=(n,0):=by
        have hvn:=hv1 O
        rw [EU hae O hj O,jK,← hke,hvn,jK]
      refine U 11200 ?_
      refine au (aY 1 1 uh fun p2=>?_)
      refine aq (aF pP (l2:=[(n:Int)]) rfl rfl rfl rfl (by exact ZR (Ze _)) (fun _ _=>I) (aW rfl (.inl rfl) jD) rfl (Br (.cons (cI (rfl)) .nil)) Tryz.underlying106 sd PZ uh So rfl (by (simp;omega)) (by (simp;omega)) (bC rfl rfl) rfl rfl (Ze _) (fun p3=>?_))
      refine U 840051 ?_
      refine aw ((a+k,nums++[n],p3)) ?_ ?_ (h5:=?_) (h7:=?_)
      ·(have hke:k=e-a+1:=O;subst hke;exact O8 hA O O hj O (hnum ▸ rfl))
      ·show b.length-(a+k)<b.length-a;omega
      ·exact .cons (cO (by simp [oK])) (.cons (cI O) .nil)
      ·exact .blk (by simp [oK]) (fun j hj=>aa.of_eq (by simp [oK])) .nil
     refine U 52116207810 ?_;refine ap (fun h110=>?_) fun h110=>?_
     rotate_left
     ·refine U 85191200840010 ?_
      refine aw ((k+1,if n≤mB a then n * 128+(b.getD (a+k) 0).toNat % 128 else n)) ?_ ?_ (h5:=?_) (h7:=?_)
      ·exact yI O O O hv1 hv2 hv3
      ·show e-a+1-(k+1)<e-a+1-k;omega
      ·exact .cons (cI O) (.cons (cI (by (rw [jK]))) .nil)
      ·exact aP.refl _
     refine U 1000000607001191200 ?_;refine jq (vi .u8 .i64) ?_;refine U 851912008400519 ?_
     refine aw ((k+1,if n≤mB a then n * 128+(b.getD (a+k) 0).toNat % 128 else n)) ?_ ?_ (h5:=?_) (h7:=?_)
     ·exact yI O O O hv1 hv2 hv3
     ·show e-a+1-(k+1)<e-a+1-k;omega
     ·exact .cons (cI O) (.cons (cI (by (rw [jP];omega))) .nil)
     ·exact aP.refl _
section
open Go.RowKit Cal
theorem A9 {t:Int} {l:YD} {k:Nat} (h:k≤28):(ab t l k).k≤28:=by
 have hb:=ek (aB l)
 unfold ab
 repeat' split
 all_goals (dsimp only;omega)
theorem U0 (b:Z):(cg b).2≤28:=by
 unfold cg
 repeat' split
 all_goals (dsimp only;omega)
theorem QT (b:Z) (x y:Int):(aX b x y).2≤28:=by
 have:=U0 b
 unfold aX
 repeat' split
 all_goals (dsimp only;omega)
theorem GG {l:YD} {k:Nat} (h:k≤28):aC l k≤28:=by
 unfold aC
 repeat' split
 all_goals omega
theorem Ux (r:Z) (m:Nat):(dM r m).2≤4:=by
 unfold dM
 repeat' split
 all_goals (dsimp only;omega)
theorem GB:∀ (n m:Nat) (b:Z),b.length≤n→(dq m b).2≤4
 | n,m,b,h=>by
  rw [dq]
  split
  ·exact YT _
  ·rename_i h0
   split
   ·exact Ux _ _
   ·split
    ·cases n with
     | zero=>exact absurd (Y1 O) h0
     | succ n =>
      have h1:=fN h0
      have h2:=Zh.2 h0
      exact GB n _ _ (by rw [YN];omega)
    ·exact YT _
theorem U1 (b:Z):(fG b).2≤28:=by
 have:=GB _ 2147483727 b (YG _)
 unfold fG
 repeat' split
 all_goals (dsimp only;omega)
theorem said_e (a:AA) (b:Z):(saidM a b).2≤28:=by
 have h1:=O9 b a.most
 have h2:=(MU b).1
 have h3:=U1 b
 have h4:=QT b a.least a.most
 have h5:(vn b).2≤28:=by
  unfold vn
  repeat' split
  all_goals (dsimp only;omega)
 have h6:(iW a.least a.most b).2≤28:=by
  unfold iW
  repeat' split
  all_goals (dsimp only;omega)
 have h7:(ee b).2≤28:=by unfold ee;split <;> (dsimp only;omega)
 have h8:yf b≤28:=by
  unfold yf
  repeat' split
  all_goals omega
 unfold saidM
 repeat' split
 all_goals (dsimp only;omega)
theorem G3 {l:YD} {k:Nat} (h:k≤28):jk l k≤28:=by
 unfold jk
 repeat' split
 all_goals omega
theorem i6 (a:AA) {l:YD} {k:Nat} (h:k≤28):(ac a l k).k≤28:=by
 unfold ac
 split
 ·show (ae a.tag l k).k≤28
  unfold ae
  refine A9 ?_
  split <;> omega
 ·split
  ·exact GG h
  ·split
   ·exact A9 h
   ·unfold eH eF
    dsimp only
    split
    ·exact said_e _ _
    ·exact A9 h
theorem SP {α:Type} {sp:nv α} (h:∀ l k,k≤28→(sp l k).1.2≤28) {l0:YD} {k0:Nat} (h0:k0≤28):∀ j,(aD sp l0 k0 j).1.2≤28
 | 0=>h0
 | j+1=>h _ _ (SP h h0 j)
theorem OC {α:Type} {sp:nv α} (h:∀ l k,k≤28→(sp l k).1.2≤28) {l0:YD} {k0:Nat} {most:Int} (h0:k0≤28):(co sp l0 k0 most).2≤28:=by
 have hj:(aD sp l0 k0 (jG sp l0 k0 most)).1.2≤28:=SP h h0 _
 unfold co
 dsimp only
 split
 ·unfold aC;rw [YF jD];exact YU rfl
 ·exact GG hj
def vE (kind:Int):VV:=⟨4,kind,false,[],[]⟩
section
variable {kind:Int} {fs:List Fd} {vs:List V4}
end
instance (f:Fd):Decidable (u6 f):=by unfold u6;infer_instance

end
section
variable {gs:List Nat} [gQ gs]
open Go.RowKit Cal

def vc (l:YD) (k:Nat):Nat→CV:=fl [C9 l,.c (.int .i64 (k:Nat))]
def vd (n:Nat) (l:YD) (k:Nat):Option Nat×bi:=(some n,.blk 2 (vc l k))
theorem we {gs:List Nat} (b:Z) (hb:b.length≤1000000):AC gs Tryz.prog 73 [] [aV b] (fun r H'=>∃ n,r=.op 0 (some n) 0∧H'=[vd n [b] (aN b).2]):=by
 refine aj 15 Tryz.func73 fun al w0 F0 St0=>?_;refine U 16516 ?_
 refine au (ar (IM b hb) ?_)
 refine U 165119009001 ?_
 refine au (aY 1 1 eK fun p1=>?_)
 refine U 1 ?_;refine jq (ai (n:=2) rfl VK Wh rfl rfl) ?_
 refine au (ff 2 fun p2=>?_)
 refine U 51 ?_;refine cL (gW 2 rfl) fun hn=>?_
 obtain ⟨n,rfl⟩:=hn
 refine jE (freeze 0 rfl) ?_;refine jE (thawC 1 0 0 (vc [b] (aN b).2) (fun i _=>aV ([b].getD i [])) rfl rfl I I (fun j hj h0=>by rcases j with _|_|j <;> first|omega|exact I) (by simp) (fun a c ha hc=>by obtain rfl:a=0:=(by simpa using ha);obtain rfl:c=0:=O;exact I)) ?_;refine U 7000 ?_
 exact bu (.inl rfl) [1] jD rfl (av rfl (ak rfl)) (cP (j:=0)) ⟨n,rfl,rfl⟩
theorem wm {gs:List Nat} (n:Nat) (l:YD) (k:Nat) (hl:0<l.length∧l.length≤1000000):AC gs Tryz.prog 142 [vd n l k] [.op 0 (some n) 0] (fun r H'=>r=.c (.bool (bN l k))∧H'=[vd n l k]):=by
 refine aj 24 Tryz.func142 fun al w0 F0 St0=>?_;refine U 7516 ?_;refine dY (.rd 0 (.rd 1 (.rd 2 (.rd 3 (.rd 4 (.rd 5 (.rd 6 (.rd 7 (.rd 8 (.rd 9 (.rd 10 (.rd 11 (.rd 12 (.rd 13 (.rd 14 (.rd 15 (.rd 16 (.rd 17 (.rd 18 (.rd 19 (.rd 20 (.rd 21 .done)))))))))))))))))))))) ?_;refine U 708001000080000005000070 ?_;refine Jk 8 (fun g182=>?_) fun g182=>?_
 ·refine U 3000020000100009000005000070100009000005000070 ?_;refine aM (dU (i:=(l.length-1)) (hz:=by omega)) ?_;refine U 70008807030000008002000070000 ?_
  exact aJ (.inl rfl) rfl (av rfl (ak rfl)) (cB (by unfold bN aB;(simp [];omega)))
 refine U 700088070300000600600600600600600600600600600600600600600 ?_
 exact aJ (.inl rfl) rfl (av rfl (ak rfl)) (cB (by unfold bN aB;(simp [];omega)))
theorem Ip {gs:List Nat} (n:Nat) (l:YD) (k:Nat) (hl:0<l.length∧l.length≤1000000):AC gs Tryz.prog 78 [vd n l k] [.op 0 (some n) 0] (fun r H'=>r=.c (.int .i64 (jk l k:Nat))∧H'=[vd n l k]):=by
 refine aj 26 Tryz.func78 fun al w0 F0 St0=>?_;refine U 525010040167516 ?_;refine ap (fun h286=>?_) fun h286=>?_
 ·refine U 3000700051501004016 ?_
  exact aJ (.inl rfl) rfl (av rfl (ak rfl)) (cI (by unfold jk;rw [jP]))
 refine U 523509040167810 ?_;refine ap (fun h289=>?_) fun h289=>?_
 ·refine U 30007000516 ?_
  exact aJ (.inl rfl) rfl (av rfl (ak rfl)) (cI (by unfold jk;rw [jK,jP];rfl))
 refine U 523602000000509040167810 ?_;refine ap (fun h292=>?_) fun h292=>?_
 ·refine U 30007000516 ?_
  exact aJ (.inl rfl) rfl (av rfl (ak rfl)) (cI (by unfold jk;rw [jK,jK,jP];rfl))
 refine U 7000516810 ?_
 exact aJ (.inl rfl) rfl (av rfl (ak rfl)) (cI (by unfold jk;rw [jK,jK,jK];rfl))

theorem wX {l:YD} {m j:Nat} (h:j<(l.take m).length):aV (l.getD (0+j / 1) [])=oA (l.take m) j:=by
 rw [Nat.zero_add,ZN]
 rw [YS] at h
 simp [oA,YH,show j<m by omega]
theorem Xx {l:YD} (h:0<l.length) (x:Z):l.set (l.length-1) x=l.take (l.length-1)++[x]:=by
 apply aXx
 intro i
 rw [a9x,ayx,YS]
 by_cases h1:l.length-1=i
 ·subst h1
  rw [YF rfl,jP,jK]
  simp
 ·rw [YE h1]
  by_cases h2:i<l.length-1
  ·rw [jP,ZV,YF h2]
  ·rw [jK,Y6 O,Y6 (by simp;omega)]
def x9 (tag:Int) (l:YD):Nat:=if (af (aB l)).e=0∧tag≠0∧((af (aB l)).tag:Int)≠tag then 5 else (af (aB l)).e
theorem Rb {tag:Int} {l:YD} (h:x9 tag l≠0):ab tag l 0=⟨l,x9 tag l,0,[],[],false⟩:=by
 unfold x9 at h ⊢
 unfold ab
 by_cases hc:(af (aB l)).e=0∧tag≠0∧((af (aB l)).tag:Int)≠tag
 ·rw [YF hc,jK,jK,jP]
 ·rw [YE hc] at h ⊢
  rw [jK,jP]
theorem MB {tag:Int} {l:YD} (h:x9 tag l=0):(af (aB l)).e=0∧(tag=0∨((af (aB l)).tag:Int)=tag):=by
 unfold x9 at h
 by_cases hc:(af (aB l)).e=0∧tag≠0∧((af (aB l)).tag:Int)≠tag
 ·rw [YF hc] at h;cases h
 ·rw [YE hc] at h;omega
theorem jH {gs:List Nat} (n:Nat) (l:YD) (k:Nat) (tag:Int) (hl:0<l.length∧l.length≤1000000) (hb:(aB l).length≤1000000):AC gs Tryz.prog 140 [vd n l k] [.op 0 (some n) 0,.c (.int .i64 tag)]
  (fun r H'=>r=.tup 3 (fl [aV (ab tag l k).body,aV (ab tag l k).raw,.c (.bool (ab tag l k).is)])∧H'=[vd n (ab tag l k).l (ab tag l k).k]):=by
 have hnb:=ek (aB l)
 refine aj 81 Tryz.func140 fun al w0 F0 St0=>?_;refine U 52501004016751116 ?_;refine ap (fun h165=>?_) fun h165=>?_
 ·refine U 3000700051116 ?_
  have hN:ab tag l k=⟨l,k,0,[],[],false⟩:=by unfold ab;rw [jP]
  rw [hN]
  exact aJ (.inl rfl) rfl (il rfl bJ bJ bJ) (aa.tup3 cN cN I)
 refine U 7810 ?_;refine dY (.rd 0 (.rd 1 (.rd 2 (.rd 3 (.rd 4 (.rd 5 (.rd 6 (.rd 7 (.rd 8 (.rd 9 (.rd 10 (.rd 11 (.rd 12 .done))))))))))))) ?_;refine U 3000020000100009000005000070100009000005000070 ?_;refine aM (dU (i:=(l.length-1)) (hz:=by omega)) ?_;refine U 8807070000 ?_
 obtain rfl:k=0:=by omega
 refine jE (aS 7 (aV (aB l)) I) ?_;refine U 16 ?_
 refine au (ar (wk (aB l) O) ?_)
 refine U 511119009009009001 ?_;refine dW (α:=Unit) [11,36,37,38,39,40,41,42,43,44,45,46] (fun _=>[(11,.c (.int .i64 ((x9 tag l:Nat):Int)))]) (fun _=>[vd n l 0]) (fun _=>True) (fun _=>rfl) ?_ ?_
 ·refine U 1216 ?_;refine aK 38 (fun g170=>?_) fun g170=>?_
  rotate_left
  ·refine U 8103005500444150044 ?_
   refine cU (()) ?_ (h5:=?_) (h7:=?_)
   ·trivial
   ·exact .cons (cI (by unfold x9;(rw [jK]))) .nil
   ·exact aP.refl _
  refine U 110000000021 ?_;refine aK 42 (fun g170_2=>?_) fun g170_2=>?_
  rotate_left
  ·refine U 8103005500444 ?_
   refine cU (()) ?_ (h5:=?_) (h7:=?_)
   ·trivial
   ·exact .cons (cI (by unfold x9;(rw [jK]))) .nil
   ·exact aP.refl _
  refine U 5100000000211 ?_;refine ap (fun h170=>?_) fun h170=>?_
  rotate_left
  ·refine U 810 ?_
   refine cU (()) ?_ (h5:=?_) (h7:=?_)
   ·trivial
   ·exact .cons (cI (by unfold x9;(rw [jK]))) .nil
   ·exact aP.refl _
  refine U 851200 ?_
  refine cU (()) ?_ (h5:=?_) (h7:=?_)
  ·trivial
  ·exact .cons (cI (by unfold x9;(rw [YF ⟨by omega,by omega,by omega⟩];rfl))) .nil
  ·exact aP.refl _
 ·rintro u _
  refine U 52167 ?_;refine ap (fun h173=>?_) fun h173=>?_
  ·have hN:=Rb (tag:=tag) (l:=l) O
   refine U 10040116 ?_
   refine aq (bo 1 (vc l (ab tag l 0).k) ?_ ?_)
   ·exact (fun j hj=>by rcases j with _|_|j <;> first|exact I|exact cI (by rw [hN]))
   refine U 30007000511165 ?_
   rw [hN]
   exact aJ (.inl rfl) rfl (il rfl bJ bJ bJ) (aa.tup3 cN cN I)
  refine U 7810 ?_
  obtain ⟨he0,hne⟩:=MB (tag:=tag) (l:=l) O
  have hc:=zj (b:=aB l) O
  have hN:ab tag l 0=⟨l.set (l.length-1) (af (aB l)).rest,0,(af (aB l)).tag,(af (aB l)).body,(aB l).take ((aB l).length-(af (aB l)).rest.length),true⟩:=by unfold ab;rw [jK,jK,jK]
  have hN:ab tag l 0=⟨[]++l.take (l.length-1)++[(af (aB l)).rest],0,(af (aB l)).tag,(af (aB l)).body,(aB l).take ((aB l).length-(af (aB l)).rest.length),true⟩:=by rw [hN,Xx hl.1];rfl
  refine lL (.rd 0 (.rd 2 (.rd 3 (.rd 4 (.rd 5 (.rd 6 (.rd 7 (.rd 8 (.rd 9 (.rd 10 (.rd 11 (.rd 12 (.rd 14 (.rd 15 (.rd 16 (.two 1 (.two 13 (.one 17 (.one 18 (.rd 19 (.rd 20 (.one 21 .done))))) 17 (.one 13 (.one 18 (.rd 19 (.rd 20 (.one 21 .done)))))) 17 (.one 1 (.one 13 (.one 18 (.rd 19 (.rd 20 (.one 21 .done)))))))))))))))))))))) ?_;refine U 5000000010000000900000040000050000000100000009000000400000400000 ?_;refine iX UJ ?_;refine iX Nu ?_;refine iX (Jl (hl:=(bG _ _)) (hu:=(cw rfl (show _=(((l.length-1):Nat):Int) by omega)))) ?_;refine U 400000400000 ?_;refine iX (qB (hz1:=(show _=(((Aw (aB l)):Nat):Int) by omega))) ?_;refine Df ?_ ?_
  ·refine GL (aY 0 1 eK fun p1=>?_)
   refine Df ?_ ?_
   ·refine lK (aF en (l:=[]) (l2:=l.take (l.length-1)) rfl rfl rfl rfl (ZR (ZQ _)) (fun j hj=>absurd hj (by simp)) (ew rfl) (by rw [YS];omega) (fun j hj=>aa.of_eq (wX O)) Tryz.underlying138 jf nC eK ol rfl (by simp;omega) (by simp;omega) (fun j hj=>rfl) rfl rfl (Ze _) (fun p2=>?_))
    refine BV (aS 69 (aV (af (aB l)).rest) (aa.bs hc.2.1.symm)) ?_
    refine GL (aY 1 1 eK fun p3=>?_)
    refine lK (aF (en) (l2:=[(af (aB l)).rest]) rfl rfl rfl rfl O (fun _ _=>I) (aW rfl (.inl rfl) jD) rfl (fun j hj=>by rcases j with _|j <;> first|exact I|(exfalso;simp at hj <;> omega)) Tryz.underlying138 jf nC eK ol rfl (by (simp;omega)) (by (simp;omega)) (bC rfl rfl) rfl rfl rfl (fun p4=>?_))
    refine U 100000009000000 ?_
    refine lK (aA 1 ?_)
    refine U 78700000 ?_
    first
     |(refine jE (freeze 1 rfl) ?_;refine jE (thawC 0 0 1 (vc ([]++l.take (l.length-1)++[(af (aB l)).rest]) 0) (fun i _=>aV (([]++l.take (l.length-1)++[(af (aB l)).rest]).getD i [])) rfl rfl I I (fun j hj h0=>by rcases j with _|_|j <;> first|omega|exact I) (by simp) (fun a c ha hc=>by obtain rfl:c=0:=O;rw [Nat.zero_add,Ze,Zt];exact I)) ?_;dsimp only [List.set_cons_zero,List.set_cons_succ,List.cons_append,List.nil_append,List.length_cons,List.length_nil,Nat.zero_add,Nat.reduceAdd])
     |(refine jE (freeze 2 rfl) ?_;refine jE (thawC 0 0 2 (vc ([]++l.take (l.length-1)++[(af (aB l)).rest]) 0) (fun i _=>aV (([]++l.take (l.length-1)++[(af (aB l)).rest]).getD i [])) rfl rfl I I (fun j hj h0=>by rcases j with _|_|j <;> first|omega|exact I) (by simp) (fun a c ha hc=>by obtain rfl:c=0:=O;rw [Nat.zero_add,Ze,Zt];exact I)) ?_;dsimp only [List.set_cons_zero,List.set_cons_succ,List.cons_append,List.nil_append,List.length_cons,List.length_nil,Nat.zero_add,Nat.reduceAdd])
    refine dY (.rd 0 (.rd 1 (.rd 2 (.rd 3 (.rd 4 (.rd 5 (.rd 6 (.rd 7 (.rd 8 (.rd 9 .done)))))))))) ?_;refine U 707070 ?_;refine aM (Nq (hz1:=(show _=(((oD (aB l)):Nat):Int) by omega)) (hz2:=(show _=(((Aw (aB l)):Nat):Int) by omega))) ?_;refine U 7070 ?_;refine aM (w9 (hz2:=(show _=(((Aw (aB l)):Nat):Int) by omega))) ?_;refine U 7000880707070 ?_
    rw [hN]
    refine aJ (.inl rfl) rfl (il rfl bJ bJ bJ) (aa.tup3 (aa.bs ?_) (aa.bs ?_) I)
    ·exact hc.1.symm
    ·rw [lE O]
   ·refine BV (aS 69 (aV (af (aB l)).rest) (aa.bs hc.2.1.symm)) ?_
    refine GL (aY 1 1 eK fun p2=>?_)
    refine lK (aF en (l:=[]) (l2:=l.take (l.length-1)) rfl rfl rfl rfl (ZR (ZQ _)) (fun j hj=>absurd hj (by simp)) (ew rfl) (by rw [YS];omega) (fun j hj=>aa.of_eq (wX O)) Tryz.underlying138 jf nC eK ol rfl (by simp;omega) (by simp;omega) (fun j hj=>rfl) rfl rfl (Ze _) (fun p3=>?_))
    refine lK (aF (en) (l2:=[(af (aB l)).rest]) rfl rfl rfl rfl O (fun _ _=>I) (aW rfl (.inl rfl) jD) rfl (fun j hj=>by rcases j with _|j <;> first|exact I|(exfalso;simp at hj <;> omega)) Tryz.underlying138 jf nC eK ol rfl (by (simp;omega)) (by (simp;omega)) (bC rfl rfl) rfl rfl rfl (fun p4=>?_))
    refine U 100000009000000 ?_
    refine lK (aA 1 ?_)
    refine U 78700000 ?_
    first
     |(refine jE (freeze 1 rfl) ?_;refine jE (thawC 0 0 1 (vc ([]++l.take (l.length-1)++[(af (aB l)).rest]) 0) (fun i _=>aV (([]++l.take (l.length-1)++[(af (aB l)).rest]).getD i [])) rfl rfl I I (fun j hj h0=>by rcases j with _|_|j <;> first|omega|exact I) (by simp) (fun a c ha hc=>by obtain rfl:c=0:=O;rw [Nat.zero_add,Ze,Zt];exact I)) ?_;dsimp only [List.set_cons_zero,List.set_cons_succ,List.cons_append,List.nil_append,List.length_cons,List.length_nil,Nat.zero_add,Nat.reduceAdd])
     |(refine jE (freeze 2 rfl) ?_;refine jE (thawC 0 0 2 (vc ([]++l.take (l.length-1)++[(af (aB l)).rest]) 0) (fun i _=>aV (([]++l.take (l.length-1)++[(af (aB l)).rest]).getD i [])) rfl rfl I I (fun j hj h0=>by rcases j with _|_|j <;> first|omega|exact I) (by simp) (fun a c ha hc=>by obtain rfl:c=0:=O;rw [Nat.zero_add,Ze,Zt];exact I)) ?_;dsimp only [List.set_cons_zero,List.set_cons_succ,List.cons_append,List.nil_append,List.length_cons,List.length_nil,Nat.zero_add,Nat.reduceAdd])
    refine dY (.rd 0 (.rd 1 (.rd 2 (.rd 3 (.rd 4 (.rd 5 (.rd 6 (.rd 7 (.rd 8 (.rd 9 .done)))))))))) ?_;refine U 707070 ?_;refine aM (Nq (hz1:=(show _=(((oD (aB l)):Nat):Int) by omega)) (hz2:=(show _=(((Aw (aB l)):Nat):Int) by omega))) ?_;refine U 7070 ?_;refine aM (w9 (hz2:=(show _=(((Aw (aB l)):Nat):Int) by omega))) ?_;refine U 7000880707070 ?_
    rw [hN]
    refine aJ (.inl rfl) rfl (il rfl bJ bJ bJ) (aa.tup3 (aa.bs ?_) (aa.bs ?_) I)
    ·exact hc.1.symm
    ·rw [lE O]
  ·refine BV (aS 69 (aV (af (aB l)).rest) (aa.bs hc.2.1.symm)) ?_
   refine GL (aY 1 1 eK fun p1=>?_)
   refine GL (aY 0 1 eK fun p2=>?_)
   refine lK (aF en (l:=[]) (l2:=l.take (l.length-1)) rfl rfl rfl rfl (ZR (ZQ _)) (fun j hj=>absurd hj (by simp)) (ew rfl) (by rw [YS];omega) (fun j hj=>aa.of_eq (wX O)) Tryz.underlying138 jf nC eK ol rfl (by simp;omega) (by simp;omega) (fun j hj=>rfl) rfl rfl (Ze _) (fun p3=>?_))
   refine lK (aF (en) (l2:=[(af (aB l)).rest]) rfl rfl rfl rfl O (fun _ _=>I) (aW rfl (.inl rfl) jD) rfl (fun j hj=>by rcases j with _|j <;> first|exact I|(exfalso;simp at hj <;> omega)) Tryz.underlying138 jf nC eK ol rfl (by (simp;omega)) (by (simp;omega)) (bC rfl rfl) rfl rfl rfl (fun p4=>?_))
   refine U 100000009000000 ?_
   refine lK (aA 1 ?_)
   refine U 78700000 ?_
   first
    |(refine jE (freeze 1 rfl) ?_;refine jE (thawC 0 0 1 (vc ([]++l.take (l.length-1)++[(af (aB l)).rest]) 0) (fun i _=>aV (([]++l.take (l.length-1)++[(af (aB l)).rest]).getD i [])) rfl rfl I I (fun j hj h0=>by rcases j with _|_|j <;> first|omega|exact I) (by simp) (fun a c ha hc=>by obtain rfl:c=0:=O;rw [Nat.zero_add,Ze,Zt];exact I)) ?_;dsimp only [List.set_cons_zero,List.set_cons_succ,List.cons_append,List.nil_append,List.length_cons,List.length_nil,Nat.zero_add,Nat.reduceAdd])
    |(refine jE (freeze 2 rfl) ?_;refine jE (thawC 0 0 2 (vc ([]++l.take (l.length-1)++[(af (aB l)).rest]) 0) (fun i _=>aV (([]++l.take (l.length-1)++[(af (aB l)).rest]).getD i [])) rfl rfl I I (fun j hj h0=>by rcases j with _|_|j <;> first|omega|exact I) (by simp) (fun a c ha hc=>by obtain rfl:c=0:=O;rw [Nat.zero_add,Ze,Zt];exact I)) ?_;dsimp only [List.set_cons_zero,List.set_cons_succ,List.cons_append,List.nil_append,List.length_cons,List.length_nil,Nat.zero_add,Nat.reduceAdd])
   refine dY (.rd 0 (.rd 1 (.rd 2 (.rd 3 (.rd 4 (.rd 5 (.rd 6 (.rd 7 (.rd 8 (.rd 9 .done)))))))))) ?_;refine U 707070 ?_;refine aM (Nq (hz1:=(show _=(((oD (aB l)):Nat):Int) by omega)) (hz2:=(show _=(((Aw (aB l)):Nat):Int) by omega))) ?_;refine U 7070 ?_;refine aM (w9 (hz2:=(show _=(((Aw (aB l)):Nat):Int) by omega))) ?_;refine U 7000880707070 ?_
   rw [hN]
   refine aJ (.inl rfl) rfl (il rfl bJ bJ bJ) (aa.tup3 (aa.bs ?_) (aa.bs ?_) I)
   ·exact hc.1.symm
   ·rw [lE O]

theorem km {b:Z} {x y:Int} (h:(aX b x y).2=0):(aX b x y).1=(cg b).1:=by
 unfold aX at h ⊢
 split
 ·rename_i h1;rw [YF h1] at h;exact absurd h h1
 ·split
  ·rename_i h1 h2;rw [YE h1,YF h2] at h;exact absurd h jD
  ·rfl
theorem said_34 {a:AA} (h:a.kind=3∨a.kind=4) (b:Z):saidM a b=(vN (aX b a.least a.most).1,(aX b a.least a.most).2):=by
 unfold saidM
 rcases h with h|h
 ·rw [YF h]
 ·rw [jK,YF h]
theorem JI {b:Z} (h:(fG b).2=0):dj (fG b).1=true:=by
 unfold fG at h ⊢
 split at h
 ·cases h
 ·rename_i h1
  rw [YE h1]
  split at h
  ·rename_i h2;exact absurd h h2
  ·rename_i h2
   rw [YE h2]
   split at h
   ·cases h
   ·rename_i h3
    rw [YE h3]
    simpa using h3
def jt (a:AA) (b:Z):CV→List (Option Nat×bi)→Prop:=fun r H'=>(∃ v,r=.tup 2 (fl [gR v,.c (.int .i64 ((saidM a b).2:Nat))])∧((saidM a b).2=0→v=(saidM a b).1))∧H'=[]
end
end Am
end Go.Proofs.YtghminnpfnkbjaaGreatDoor
