/- What the law leans on, part 8 -/
import Derived.Test.YtghminnpfnkbjaaGreatDoorM7RequestBody
import Derived.Test.YtghminnpfnkbjaaGreatDoorRows
import Derived.LaidLaws
import Derived.MakeChecks
import Derived.Lib.LaidU8T
import Derived.Shelf.Unicode.ValidAny
set_option maxRecDepth 100000
set_option maxHeartbeats 8000000
set_option linter.unusedVariables false
variable {gs:List Nat}
open Go.Proofs.Tryz
namespace Go.Proofs.YtghminnpfnkbjaaGreatDoor
namespace Am
open Go.RowKit
section
variable {gs:List Nat} [PU gs]
theorem Qm {gs:List Nat} (N:Nat) (hN:N≤9223372036854775807):cd gs prog 265 [.c (.int .i64 (N:Nat))] (ap (mD N)):=by
 have hdl:=qR 18 N O
 refine ae 28 func265 fun _ _ _ _=>?_;refine U 52167516 ?_;refine an (fun h84=>?_) fun h84=>?_
 ·exfalso;omega
 refine U 8000009100000016810 ?_
 refine aq (aM 1 1 da fun p1=>?_)
 refine U 205160000016751 ?_;refine ar (α:=Nat×I×Option Nat) [0,3,13,14,15,16,17,18,19,20,21,22,23] (fun (m,o,g)=>[(0,.c (.int .i64 (m:Nat))),(3,.os 0 g 0 o.length 1)]) (fun (m,o,g)=>[(g,.blk o.length (aV o))]) (fun (m,o,g)=>m≤N∧mD N=(if m=0 then [] else mD m)++o.reverse) (fun (m,o,g)=>m) ((N / 10,[Ch (N % 10)],p1)) ?_ (fun _=>rfl) ?_ ?_ ?_
 exact ⟨crx _ _,KW N⟩
 exact .cons (cI O) (.cons Z .nil)
 exact .blk rfl (fun j hj=>AR (l2:=[Ch (N % 10)]) (.cons (cI (wG N).symm) .nil) j hj) .nil
 ·rintro ⟨m,o,g⟩ ⟨(hm:m≤N),hd⟩
  have ho:o.length≤19:=by have:=ZV List.length hd;simp only [ZD,a2x] at this;omega
  refine U 52167 ?_;refine aaa (fun h88=>?_) fun h88=>?_
  ·refine U 1684000200020006000 ?_
   refine aw (aN 0 (mm _ o O) ?_)
   refine U 165 ?_;refine kj Se ?_;refine U 8000700051 ?_;refine aa.strL ?_
   rw [hd,jP]
   rfl
  refine U 8000009100000011200207810 ?_
  refine aq (aM 1 1 da fun p2=>?_)
  refine aw (ay (l2:=[Ch (m % 10)]) rfl rfl rfl (ZA _) (fun _ _=>Z) (aI rfl (.inl rfl) jD) rfl (bz (.cons (cI ((wG m).symm)) .nil)) underlying23 dV fR da jt rfl (by (simp;omega)) (cp rfl rfl) rfl rfl (fun p3=>?_))
  refine U 8516000001200840051 ?_
  refine am ((m / 10,o++[Ch (m % 10)],p3)) ?_ ?_ (h5:=?_)
  exact ⟨by omega,by rw [hd];exact Pt O o⟩
  show m / 10<m;omega
  exact .cons (cI O) (.cons Z .nil)
theorem QV {gs:List Nat} (N:Nat) (hN:N≤9223372036854775807):cd gs prog 219 [.c (.int .i64 (N:Nat))] (ap (mD N)):=by
 induction N using wK with
 | h0 N h =>
  refine ae 20 func219 fun al w0 F0 St0=>?_;refine U 52167516 ?_;refine aaa (fun h42=>?_) fun h42=>?_
  ·exfalso;omega
  refine U 800000916 ?_
  refine aq (aM 1 1 da fun p1=>?_)
  refine aA (freeze 0 rfl) ?_;refine aA (ja 8 ([Ch N]) rfl rfl rfl rfl (.cons (cI ((by rw [jV _ h];omega))) .nil)) ?_;refine jq D8 ?_;refine U 80003000700051 ?_;refine aa.strL ?_
  exact (fB h).symm
 | h1 N h ih =>
  have hdl:=qR 18 N O
  have hdl2:=qR 18 (N / 10) O
  refine ae 20 func219 fun al w0 F0 St0=>?_;refine U 52167516 ?_;refine an (fun h42=>?_) fun h42=>?_
  ·exfalso;omega
  refine U 7810 ?_;refine dQ (.rd 0 (.rd 1 (.rd 3 (.rd 4 (.rd 5 (.rd 6 (.two 2 (.one 7 (.rd 8 (.rd 9 (.rd 10 .done)))) 7 (.rd 8 (.one 2 (.rd 9 (.rd 10 .done))))))))))) ?_;refine U 70 ?_;refine aJ (MP rfl rfl rfl (by omega) (by omega) (cU (k:=.i64) (by show _∧_;(omega)))) ?_;refine U 70 ?_;refine aJ (MO rfl rfl rfl (by omega) (by omega)) ?_;refine aJ (P3 (hS:=by show _∧_;(omega))) ?_;refine aJ (wg .i64 .u8 (hS:=by show _∧_;(omega))) ?_;refine ya ?_ ?_
  ·refine gp (ak (ih O) ?_ (ho:=rfl) (he:=(.cons (se rfl (cI O)) .nil)))
   refine gp (aM 1 1 da fun p1=>?_)
   refine ij (freeze 0 rfl) ?_;refine ij (ja 17 ([Ch (N % 10)]) rfl rfl rfl rfl (.cons (cI ((wG N).symm)) .nil)) ?_;refine aJ D8 ?_;refine aJ (Xk (hS:=by ((simp only [List.length_cons,List.length_nil];omega)))) ?_;refine U 8000700088070 ?_;refine aa.strL ?_
   exact (jp h).symm
  ·refine gp (aM 1 1 da fun p1=>?_)
   refine ij (freeze 0 rfl) ?_;refine ij (ja 17 ([Ch (N % 10)]) rfl rfl rfl rfl (.cons (cI ((wG N).symm)) .nil)) ?_;refine aJ D8 ?_
   refine gp (ak (ih O) ?_ (ho:=rfl) (he:=(.cons (se rfl (cI O)) .nil)))
   refine aJ (Xk (hS:=by ((simp only [List.length_cons,List.length_nil];omega)))) ?_;refine U 8000700088070 ?_;refine aa.strL ?_
   exact (jp h).symm
theorem Ed (c:UInt8):dM c=true↔48≤c.toNat∧c.toNat≤57:=by simp [dM]
theorem uV {c:UInt8} (h1:48≤(c.toNat:Int)) (h2:(c.toNat:Int)≤57):dM c=true:=(Ed c).2 ⟨by omega,by omega⟩
theorem nt {c:UInt8} (h:(c.toNat:Int)<48∨57<(c.toNat:Int)):dM c=false:=by
 cases e:dM c with
 | false=>rfl
 | true=>have:=(Ed c).1 e;omega
theorem uk {l:I} {i:Nat} (hi:i<l.length) (h:(l.take i).all dM=true) (hc:dM (l.getD i 0)=true):(l.take (i+1)).all dM=true:=by
 rw [zK l i hi,bTx,h,a4x,hc]
 rfl
theorem lU {l:I} (h:l=[]∨(18:Int)<(l.length:Nat)∨((1:Int)<(l.length:Nat)∧((l.getD 0 0).toNat:Int)=48)∨l.all dM=false):(mV l).1=0∧(mV l).2=4:=by
 unfold mV
 rw [Zz (by
  rcases h with h|h|h|h
  exact .inl (by simp [h])
  exact .inr (.inl O)
  exact .inr (.inr (.inl ⟨by omega,by omega⟩))
  exact .inr (.inr (.inr h)))]
 exact ⟨rfl,rfl⟩
theorem AU {l:I} (h0:l≠[]) (h1:¬ (18:Int)<(l.length:Nat)) (h2:¬ ((1:Int)<(l.length:Nat)∧((l.getD 0 0).toNat:Int)=48)) (h3:l.all dM=true):(mV l).1=i9 l∧(mV l).2=0:=by
 unfold mV
 rw [Zy (by
  rintro (h|h|h|h)
  exact h0 (Z5 h)
  exact h1 O
  exact h2 ⟨by omega,by omega⟩
  ·rw [h3] at h;cases h)]
 exact ⟨rfl,rfl⟩
theorem w7 {l:I} {i:Nat} (hi:i<l.length):i9 (l.take (i+1))=10 * i9 (l.take i)+((l.getD i 0).toNat-48):=by
 rw [zK l i hi,kp]
theorem Qq (l:I):cd gs prog 234 [ap l] (.tup 2 (fl [.c (.int .i64 ((mV l).1:Nat)),.err (mV l).2])):=by
 refine ae 48 func234 fun _ _ _ _=>?_;refine U 1600001675116 ?_;refine aH 9 (fun g97=>?_) fun g97=>?_
 ·refine U 790005100000000444444441100000000444 ?_;refine dQ (.rd 0 (.rd 1 (.rd 2 .done))) ?_;refine U 80003000700088070704000000 ?_
  have hb:=@lU l (by (simp_all;done))
  exact cT (cI (by rw [hb.1];rfl)) (aa.errN hb.2)
 refine U 15002400001 ?_;refine aH 14 (fun g97_2=>?_) fun g97_2=>?_
 ·refine U 79000510000000044444444 ?_;refine dQ (.rd 0 (.rd 1 (.rd 2 .done))) ?_;refine U 80003000700088070704000000 ?_
  have hb:=@lU l (by (simp_all;done))
  exact cT (cI (by rw [hb.1];rfl)) (aa.errN hb.2)
 refine U 12400001 ?_;refine aH 18 (fun g97_3=>?_) fun g97_3=>?_
 rotate_left
 ·refine U 2051400001675168103005500500444 ?_;refine ar (α:=Nat) [2,3,4,5,6,27,28,29,30,31,32,33,34,35,36,37,38,39,40,41,42,43,44,45,46] (fun i=>[(4,.c (.int .i64 (i9 (l.take i):Nat))),(27,.c (.int .i64 (i:Nat)))]) (fun _=>[]) (fun i=>i≤l.length∧(l.take i).all dM=true) (fun i=>l.length-i) (0) ?_ (fun _=>rfl) ?_ ?_ ?_
  exact ⟨ZL _,rfl⟩
  ·(repeat (first|exact bh.nil|refine bh.cons Z ?_))
  ·(repeat (exact aD.nil))
  ·rintro i ⟨(hi:i≤l.length),hf⟩
   have hl18:l.length≤18:=by omega
   refine U 7526 ?_;refine aaa (fun h101=>?_) fun h101=>?_
   ·refine U 800070005111684000200020006000 ?_
    have hi2:i=l.length:=by omega
    rw [hi2,ZW] at hf
    have hb:=AU (l:=l) (by (simp_all;done)) (by (simp_all;done)) (by grind) hf
    exact cT (cI (by rw [hb.1,hi2,ZW])) (aa.errN hb.2)
   refine U 5116207810 ?_
   have hv:=ui hf (by rw [ZK];omega)
   refine U 121675180000000116 ?_;refine aH 35 (fun g103=>?_) fun g103=>?_
   ·refine U 79000510000000044 ?_;refine dQ (.rd 0 (.rd 1 (.rd 2 .done))) ?_;refine U 8000300050003000300050003000700088070704000000 ?_
    have hb:=@lU l (.inr (.inr (.inr (kb (i:=i) O (by exact nt (.inl O))))))
    exact cT (cI (by rw [hb.1];rfl)) (aa.errN hb.2)
   refine U 550021 ?_;refine an (fun h103=>?_) fun h103=>?_
   ·refine ia ?_;refine dQ (.rd 0 (.rd 1 (.rd 2 .done))) ?_;refine U 8000300050003000300050003000700088070704000000 ?_
    have hb:=@lU l (.inr (.inr (.inr (kb (i:=i) O (by exact nt (.inr O))))))
    exact cT (cI (by rw [hb.1];rfl)) (aa.errN hb.2)
   refine U 9191200810 ?_;refine jq (wg .u8 .i64) ?_;refine U 85192008400519 ?_
   refine am (i+1) ?_ ?_ (h5:=?_)
   exact ⟨by omega,uk O hf (uV O O)⟩
   show l.length-(i+1)<l.length-i;omega
   exact .cons (cI (by rw [w7 O];omega)) (.cons (cI O) .nil)
 refine U 1 ?_;refine jq (B8 (i:=0)) ?_;refine U 55001000000002 ?_;refine an (fun h97=>?_) fun h97=>?_
 ·refine ia ?_;refine dQ (.rd 0 (.rd 1 (.rd 2 .done))) ?_;refine U 80003000700088070704000000 ?_
  have hb:=@lU l (by (simp_all;done))
  exact cT (cI (by rw [hb.1];rfl)) (aa.errN hb.2)
 refine U 205140000167516810 ?_;refine ar (α:=Nat) [2,3,4,5,6,27,28,29,30,31,32,33,34,35,36,37,38,39,40,41,42,43,44,45,46] (fun i=>[(4,.c (.int .i64 (i9 (l.take i):Nat))),(27,.c (.int .i64 (i:Nat)))]) (fun _=>[]) (fun i=>i≤l.length∧(l.take i).all dM=true) (fun i=>l.length-i) (0) ?_ (fun _=>rfl) ?_ ?_ ?_
 exact ⟨ZL _,rfl⟩
 ·(repeat (first|exact bh.nil|refine bh.cons Z ?_))
 ·(repeat (exact aD.nil))
 ·rintro i ⟨(hi:i≤l.length),hf⟩
  have hl18:l.length≤18:=by omega
  refine U 7526 ?_;refine aaa (fun h101=>?_) fun h101=>?_
  ·refine U 800070005111684000200020006000 ?_
   have hi2:i=l.length:=by omega
   rw [hi2,ZW] at hf
   have hb:=AU (l:=l) (by (simp_all;done)) (by (simp_all;done)) (by (simp_all;done)) hf
   exact cT (cI (by rw [hb.1,hi2,ZW])) (aa.errN hb.2)
  refine U 5116207810 ?_
  have hv:=ui hf (by rw [ZK];omega)
  refine U 121675180000000116 ?_;refine aH 35 (fun g103=>?_) fun g103=>?_
  ·refine U 79000510000000044 ?_;refine dQ (.rd 0 (.rd 1 (.rd 2 .done))) ?_;refine U 8000300050003000300050003000700088070704000000 ?_
   have hb:=@lU l (.inr (.inr (.inr (kb (i:=i) O (by exact nt (.inl O))))))
   exact cT (cI (by rw [hb.1];rfl)) (aa.errN hb.2)
  refine U 550021 ?_;refine an (fun h103=>?_) fun h103=>?_
  ·refine ia ?_;refine dQ (.rd 0 (.rd 1 (.rd 2 .done))) ?_;refine U 8000300050003000300050003000700088070704000000 ?_
   have hb:=@lU l (.inr (.inr (.inr (kb (i:=i) O (by exact nt (.inr O))))))
   exact cT (cI (by rw [hb.1];rfl)) (aa.errN hb.2)
  refine U 9191200810 ?_;refine jq (wg .u8 .i64) ?_;refine U 85192008400519 ?_
  refine am (i+1) ?_ ?_ (h5:=?_)
  exact ⟨by omega,uk O hf (uV O O)⟩
  show l.length-(i+1)<l.length-i;omega
  exact .cons (cI (by rw [w7 O];omega)) (.cons (cI O) .nil)
def u9 (l:I):Nat×Bool:=if (mV l).2=0 then ((mV l).1,true) else (0,false)
theorem pO {l:I} (h:(l.length:Int)<1∨(18:Int)<(l.length:Nat)∨l.all dM=false∨mD (i9 l)≠l):u9 l=(0,false):=by
 unfold u9
 rw [yn,Zy (show ¬ (1≤l.length∧l.length≤18∧l.all dM=true∧mD (i9 l)=l) from fun h2=>by
  rcases h with h|h|h|h
  omega
  omega
  ·rw [h] at h2;exact absurd h2.2.2.1 (by simp)
  exact h h2.2.2.2)]
 rfl
theorem KL {l:I} (h0:¬ (l.length:Int)<1) (h1:¬ (18:Int)<(l.length:Nat)) (h2:l.all dM=true) (h3:mD (i9 l)=l):u9 l=(i9 l,true):=by
 have e:mV l=(i9 l,0):=by rw [yn,Zz ⟨by omega,by omega,h2,h3⟩]
 unfold u9
 rw [e]
 rfl
theorem Q6 {gs:List Nat} (l:I):cd gs prog 214 [ap l] (.tup 2 (fl [.c (.int .i64 ((u9 l).1:Nat)),.c (.bool (u9 l).2)])):=by
 refine ae 43 func214 fun _ _ _ _=>?_;refine U 12400001675116 ?_;refine aH 9 (fun g50=>?_) fun g50=>?_
 ·refine U 800030007000511690005100000000444 ?_
  have hb:=@pO l O
  rw [hb]
  exact Z
 refine U 55002400001 ?_;refine an (fun h50=>?_) fun h50=>?_
 ·refine U 8000300070005116 ?_
  have hb:=@pO l O
  rw [hb]
  exact Z
 refine U 205167516810 ?_;refine ar (α:=Nat) [2,3,4,5,14,15,16,17,18,19,20,21,22,23,24,25,26,27,28,29,30,31,32,33,34,35,36,37] (fun i=>[(4,.c (.int .i64 (i9 (l.take i):Nat))),(5,.c (.int .i64 (i:Nat)))]) (fun _=>[]) (fun i=>i≤l.length∧(l.take i).all dM=true) (fun i=>l.length-i) (0) ?_ (fun _=>rfl) ?_ ?_ ?_
 exact ⟨ZL _,rfl⟩
 ·(repeat (first|exact bh.nil|refine bh.cons Z ?_))
 ·(repeat (exact aD.nil))
 ·rintro i ⟨(hi:i≤l.length),hf⟩
  have hl18:l.length≤18:=by omega
  refine U 52400001167 ?_;refine aaa (fun h54=>?_) fun h54=>?_
  ·refine U 784000200020006000 ?_
   have hi2:i=l.length:=by omega
   rw [hi2,ZW] at hf
   have hv:=ID hf O
   refine U 16 ?_
   refine aq (ak (QV (i9 l) O) ?_ (ho:=rfl) (he:=(.cons (se rfl (cI (by rw [hi2,ZW]))) .nil)))
   refine U 5600001 ?_;refine an (fun h60=>?_) fun h60=>?_
   ·refine U 8000300070005116 ?_
    have hb:=@pO l (.inr (.inr (.inr (by exact h60))))
    rw [hb]
    exact Z
   refine U 8000700051116810 ?_
   have hb:=KL (l:=l) O O hf (by (simp_all;done))
   rw [hb,hi2,ZW]
   exact Z
  refine U 7207810 ?_
  have hv:=ui hf (by rw [ZK];omega)
  refine U 1280000000116 ?_;refine aH 24 (fun g55=>?_) fun g55=>?_
  ·refine U 800030005000300030005000300070005116900051000000004444 ?_
   have hb:=@pO l (.inr (.inr (.inl (kb (i:=i) O (by exact nt (.inl O))))))
   rw [hb]
   exact Z
  refine U 550028000000011 ?_;refine an (fun h55=>?_) fun h55=>?_
  ·refine U 800030005000300030005000300070005116 ?_
   have hb:=@pO l (.inr (.inr (.inl (kb (i:=i) O (by exact nt (.inr O))))))
   rw [hb]
   exact Z
  refine U 851912008400519970000000800000001191200810 ?_
  refine am (i+1) ?_ ?_ (h5:=?_)
  exact ⟨by omega,uk O hf (uV O O)⟩
  show l.length-(i+1)<l.length-i;omega
  exact .cons (cI (by rw [w7 O];omega)) (.cons (cI O) .nil)
theorem Ky {gs:List Nat} {g:FuncId} {n:Nat} {fv:Nat→CV} (hc:bA prog g=true) (l:List (Int)) (p:(Int)→Bool) (hp:∀ r,cd gs prog g ((fun z:Int=>.c (.int .i64 z)) r::(List.range n).map fv) (.c (.bool (p r)))) :
  cd gs prog 272 [CE l,.fn g n fv] (.c (.int .i64 (ek p l))):=by
 refine fF 0 rfl fun hlen=>?_;refine ae 19 func272 fun _ _ _ _=>?_;refine U 20513167516 ?_;refine ar (α:=Nat) [4,5,8,9,10,11,12,13,14,15,16,17,18] (fun i=>[(8,.c (.int .i64 (i:Nat)))]) (fun _=>[]) (fun i=>i≤l.length∧∀ j (hj:j<l.length),j<i→p l[j]=false) (fun i=>l.length-i) (0) ?_ (fun _=>rfl) ?_ ?_ ?_
 exact ⟨by omega,fun j _ hj=>absurd hj (ZO j)⟩
 ·(repeat (first|exact bh.nil|refine bh.cons Z ?_))
 ·(repeat (exact aD.nil))
 ·rintro i ⟨hi,he⟩
  refine U 7526 ?_;refine aaa (fun h108=>?_) fun h108=>?_
  ·refine U 8000700051684000200020006000 ?_;refine cI ?_
   exact (my fun j hj=>he j hj O).symm
  refine U 6070011165116207810 ?_
  refine aq (ln rfl rfl (by assumption) (hp (l.getD i 0)) (oz Z _) rfl rfl ?_)
  rintro _ _ ⟨rfl,rfl⟩
  refine U 5 ?_;refine an (fun h109=>?_) fun h109=>?_
  ·refine U 80003000500030003000500070005116 ?_;refine cI ?_
   have hlt:i<l.length:=by omega
   exact (ny i hlt (by simpa [List.getD,hlt] using h109) (fun j hj=>he j O hj)).symm
  refine U 8519200840010 ?_;refine am (i+1) ?_ ?_
  ·exact ⟨by omega,fun j hj hj1=>by
    by_cases e:j=i
    ·subst e
     simpa [List.getD,hj] using h109
    exact he j hj O⟩
  omega
theorem Kz {gs:List Nat} {g:FuncId} {n:Nat} {fv:Nat→CV} (hc:bA prog g=true) (l:List (Int)) (p:(Int)→Bool) (hp:∀ r,cd gs prog g ((fun z:Int=>.c (.int .i64 z)) r::(List.range n).map fv) (.c (.bool (p r)))) :
  cd gs prog 249 [CE l,.fn g n fv] (.c (.bool (l.any p))):=by
 refine ae 9 func249 fun _ _ _ _=>?_;refine U 116516 ?_
 refine aq (ak (Ky hc l p hp) ?_)
 refine U 80007000512 ?_;refine cB ?_
 exact sj p l
def JQ (n:Int):Bool:=decide (n<0) || decide (2147483647<n)
theorem U5 {gs:List Nat} (n:Int):cd gs prog 250 (.c (.int .i64 n)::(List.range 0).map fun _=>.top) (.c (.bool (JQ n))):=by
 refine ae 9 func250 fun _ _ _ _=>?_;refine U 1216516 ?_;refine aH 5 (fun g25=>?_) fun g25=>?_
 ·refine U 800070005110000000044 ?_;refine cB ?_
  unfold JQ
  (simp_all;done)
 refine U 800070005150021 ?_;refine cB ?_
 unfold JQ
 (simp_all;omega)
theorem ly (l:List Int):(!l.any JQ)=l.all (fun n=>decide (0≤n) && decide (n≤2147483647)):=by
 rw [← vU]
 congr 2
 funext n
 unfold JQ
 by_cases h1:n<0<;>by_cases h2:2147483647<n<;>simp [h1,h2]<;>omega
theorem Ac {gs:List Nat} (l:List Int):cd gs prog 235 [CE l] (.c (.bool (dz l))):=by
 refine fF 0 rfl fun hlen=>?_;refine ae 34 func235 fun _ _ _ _=>?_;refine U 123167516 ?_;refine aH 7 (fun g22=>?_) fun g22=>?_
 ·refine U 80003000700051690005100000000444 ?_;refine cB ?_
  unfold dz
  rw [← ly]
  (simp_all;omega)
 refine U 5500231 ?_;refine an (fun h22=>?_) fun h22=>?_
 ·refine U 800030007000516 ?_;refine cB ?_
  unfold dz
  rw [← ly]
  (simp_all;omega)
 refine U 16810 ?_
 refine aq (ak (Kz (n:=0) (fv:=fun _=>.top) (by kernel_rfl) l JQ U5) ?_)
 refine U 1301651 ?_;refine aH 16 (fun g26=>?_) fun g26=>?_
 rotate_left
 ·refine U 8000700051500444444444415004444 ?_;refine cB ?_
  unfold dz
  rw [← ly]
  grind
 refine U 110000000026020000001 ?_;refine aH 22 (fun g26_2=>?_) fun g26_2=>?_
 rotate_left
 ·refine U 80007000515004444444444 ?_;refine cB ?_
  unfold dz
  rw [← ly]
  (simp_all;omega)
 refine U 126020000001 ?_;refine aH 27 (fun g26_3=>?_) fun g26_3=>?_
 ·refine U 80007000511000000001000000004444 ?_;refine cB ?_
  unfold dz
  rw [← ly]
  (simp_all;omega)
 refine U 1 ?_;refine jq (dP (i:=1)) ?_;refine U 8000700051100000000500260 ?_;refine cB ?_
 unfold dz
 rw [← ly]
 (simp_all;omega)
theorem Hc (n:Nat):(((UInt8.ofNat (n % 128)).toNat:Nat):Int)=(n:Int) % 128:=by
 rw [ZT];omega
theorem Db (n:Nat):(((UInt8.ofNat (n % 128+128)).toNat:Nat):Int)=(n:Int) % 128+128:=by
 rw [ZT];omega
theorem xg {gs:List Nat} (N:Nat) (hN:N<34359738368):AC gs prog 196 [] [.c (.int .i64 (N:Nat))] (ss (ez N).length 1 (ez N).length (aV (ez N))):=by
 have hlen:=ku hN
 refine ae 24 func196 fun _ _ _ _=>?_;refine U 800000100000016516 ?_
 refine aq (aM 1 1 da fun p1=>?_)
 refine U 205160000016751 ?_;refine ar (α:=Nat×I×Option Nat) [0,3,10,11,12,13,14,15,16,17,18,19,20] (fun (m,o,g)=>[(0,.c (.int .i64 (m:Nat))),(3,.os 0 g 0 o.length 1)]) (fun (m,o,g)=>[(g,.blk o.length (aV o))]) (fun (m,o,g)=>m≤N∧ez N=ik m++o.reverse∧0<o.length) (fun (m,o,g)=>m) ((N / 128,[UInt8.ofNat (N % 128)],p1)) ?_ (fun _=>rfl) ?_ ?_ ?_
 exact ⟨crx _ _,rfl,Nat.one_pos⟩
 exact .cons (cI O) (.cons Z .nil)
 exact .blk rfl (fun j hj=>AR (l2:=[UInt8.ofNat (N % 128)]) (.cons (cI (Hc N).symm) .nil) j hj) .nil
 ·rintro ⟨m,o,g⟩ ⟨(hm:m≤N),hd,ho0⟩
  have ho:o.length≤5:=by have:=ZV List.length hd;simp only [ZD,a2x] at this;omega
  refine U 52167 ?_;refine aaa (fun h60=>?_) fun h60=>?_
  ·refine U 84000200020006000 ?_
   have hm0:m=0:=by omega
   rw [hm0,fg,List.nil_append] at hd
   refine U 16 ?_
   refine aw (aN 0 (mm _ o O) ?_)
   refine U 700051165 ?_
   exact nA 0 (.inl rfl) (aK rfl (ai rfl)) rfl (by rw [hd,a2x]) (by rw [hd];exact ZA _) (fun _=>by rw [hd]) (fun j hj=>by rw [hd];exact Z)
  refine U 8000009100000011200207810 ?_
  refine aq (aM 1 1 da fun p2=>?_)
  refine aw (ay (l2:=[UInt8.ofNat (m % 128+128)]) rfl rfl rfl (ZA _) (fun _ _=>Z) (aI rfl (.inl rfl) jD) rfl (bz (.cons (cI ((Db m).symm)) .nil)) underlying23 dV fR da jt rfl (by (simp;omega)) (cp rfl rfl) rfl rfl (fun p3=>?_))
  refine U 8516000001200840051 ?_
  refine am ((m / 128,o++[UInt8.ofNat (m % 128+128)],p3)) ?_ ?_ (h5:=?_)
  exact ⟨by omega,by rw [hd,gj (show m≠0 by omega),csx,Z8];rfl,by simp⟩
  show m / 128<m;omega
  exact .cons (cI O) (.cons Z .nil)
theorem Mm {l:I} {i:Nat} (h:i<l.length):eE (l.take (i+1))=eE (l.take i) * 128+(l.getD i 0).toNat % 128:=by
 rw [ZH h,iF]
 simp [List.getD,h]
theorem Qr {l:I} (i:Nat):eE (l.take i)≤eE l:=by
 have key:∀ (r:I) (a:I),eE a≤eE (a++r):=by
  intro r
  induction r with
  | nil=>simp
  | cons c r ih =>
   intro a
   have h1:=ih (a++[c])
   rw [iF] at h1
   rw [show a++c::r=a++[c]++r by simp]
   have:eE a≤eE a * 128:=by omega
   omega
 have:=key (l.drop i) (l.take i)
 rwa [amx] at this
theorem s9 {r:I} {most:Nat} {x:Nat×Nat} (h:fI r most=x):(fI r most).1=x.1∧(fI r most).2=x.2:=by rw [h];exact ⟨rfl,rfl⟩
theorem Ag {gs:List Nat} [ib gs] (r:I) (most:Nat) (hr:0<r.length) (hm:most≤9999999999):cd gs prog 242 [bc r,.c (.int .i64 (most:Nat))] (.tup 2 (fl [.c (.int .i64 ((fI r most).1:Nat)),.err (fI r most).2])):=by
 refine fF 0 rfl fun hlen=>?_;refine ae 42 func242 fun _ _ _ _=>?_;refine U 931162075116 ?_;refine jq (dP (i:=(r.length-1)) (hz:=by omega)) ?_;refine U 51260 ?_;refine an (fun h99=>?_) fun h99=>?_
 ·refine ia ?_;refine dQ (.rd 0 (.rd 1 (.rd 2 .done))) ?_;refine aJ (cK 1) ?_;refine U 80003000500070008807070 ?_
  have hb:=s9 (r:=r) (most:=most) (x:=(0,2)) (by unfold fI;rw [jP])
  exact cT (cI (by rw [hb.1];rfl)) (aa.errN hb.2)
 refine U 51260200000016 ?_;refine an (fun h101=>?_) fun h101=>?_
 ·refine ia ?_;refine dQ (.rd 0 (.rd 1 (.rd 2 .done))) ?_;refine U 800030005000700088070704000000 ?_
  have hb:=s9 (r:=r) (most:=most) (x:=(0,4)) (by unfold fI;rw [jK,jP])
  exact cT (cI (by rw [hb.1];rfl)) (aa.errN hb.2)
 refine U 20513167516840010 ?_;refine ar (α:=Nat) [4,5,6,8,26,27,28,29,30,31,32,33,34,35,36,37,38,39,40] (fun i=>[(6,.c (.int .i64 (eE (r.take i):Nat))),(26,.c (.int .i64 (i:Nat)))]) (fun _=>[]) (fun i=>i≤r.length∧eE (r.take i)≤most) (fun i=>r.length-i) (0) ?_ (fun _=>rfl) ?_ ?_ ?_
 exact ⟨ZL _,by simp [eE]⟩
 ·(repeat (first|exact bh.nil|refine bh.cons Z ?_))
 ·(repeat (exact aD.nil))
 ·rintro i ⟨(hi:i≤r.length),hv⟩
  refine U 7526 ?_;refine aaa (fun h105=>?_) fun h105=>?_
  ·refine U 800070005111684000200020006000 ?_
   have hi2:i=r.length:=by omega
   rw [hi2,ZW] at hv
   have hb:=s9 (r:=r) (most:=most) (x:=(eE r,0)) (by unfold fI;rw [jK,jK,jK])
   exact cT (cI (by rw [hb.1,hi2,ZW])) (aa.errN hb.2)
  refine U 1000000191651607006207810 ?_;refine jq (wg .u8 .i64) ?_;refine U 52116519 ?_;refine aaa (fun h107=>?_) fun h107=>?_
  ·refine U 8519200840010 ?_
   refine am (i+1) ?_ ?_ (h5:=?_)
   exact ⟨by omega,by rw [Mm O];omega⟩
   show r.length-(i+1)<r.length-i;omega
   exact .cons (cI (by rw [Mm O];omega)) (.cons (cI O) .nil)
  refine ia ?_;refine dQ (.rd 0 (.rd 1 (.rd 2 .done))) ?_;refine aJ (cK 0) ?_;refine U 80003000500030003000500070008807070 ?_
  have h9:=Mm (l:=r) (i:=i) O
  have h8:=Qr (l:=r) (i+1)
  have hb:=s9 (r:=r) (most:=most) (x:=(0,1)) (by unfold fI;rw [jK,jK,jP])
  exact cT (cI (by rw [hb.1];rfl)) (aa.errN hb.2)
theorem Kw {gs:List Nat} (a:I) (c:UInt8):cd gs prog 271 [ap a,ap [c]] (.c (.int .i64 (Lib.indexByte a c))) :=
 pX fun al w St vals hs hv hr=>by
  rw [wW hv,show vals.getD 0 undef=.string ⟨a.toArray⟩ from hr 0,show vals.getD 1 undef=.string ⟨#[c]⟩ from hr 1]
  exact (strings_Index_one _ _ w).mono (by rintro e w' ⟨rfl,rfl⟩;exact ⟨by simp,Below.refl _ _⟩)
theorem HU (c:UInt8):∀ l:I,(Lib.indexByte l c<0∧aC c l=[l])∨∃ p r,l=p++c::r∧Lib.indexByte l c=(p.length:Nat)∧aC c l=p::aC c r
 | []=>.inl ⟨by simp [Lib.indexByte],rfl⟩
 | x::l=>by
  by_cases hx:x=c
  ·subst hx
   refine .inr ⟨[],l,rfl,?_,?_⟩
   ·simp [Lib.indexByte]
   ·simp [aC]
  ·rcases HU c l with ⟨h1,h2⟩|⟨p,r,h1,h2,h3⟩
   ·refine .inl ⟨?_,?_⟩
    ·have:=Lib.indexByte_ge l c
     have e:Lib.indexByte l c=-1:=by omega
     simp [Lib.indexByte,hx,e]
    ·rw [aC,Zy hx,h2];rfl
   ·refine .inr ⟨x::p,r,by rw [h1];rfl,?_,?_⟩
    ·have e:¬ Lib.indexByte l c=-1:=by omega
     simp [Lib.indexByte,hx,h2];try omega
    ·rw [aC,Zy hx,h3];rfl
def Uv (f:FuncId) (c:UInt8) (g:Option Nat):CV:=.fn f 3 (fl [.rp 1 fun _=>ap [c],.op 0 g 0,.rp 1 fun _=>.c (.int .i64 0)])
theorem Mg {gs:List Nat} (s:I) (c:UInt8):AC gs prog 248 [] [ap s,ap [c],.c (.int .i64 0)] (fun r H'=>∃ g,r=Uv 269 c g∧H'=[(g,.blk 1 (fun _=>ap s))]):=by
 refine ae 8 func248 fun _ _ _ _=>?_;refine eA ?_
 refine aq (ee 1 fun p1=>?_)
 refine aq (ee 1 fun p2=>?_)
 refine aq (ee 1 fun p3=>?_)
 refine U 51 ?_;refine jE (freeze 1 rfl) ?_;refine jE (freeze 2 rfl) ?_;refine jE (lH (m:=1) 4 rfl rfl jD) ?_;refine jE (lH (m:=1) 5 rfl rfl jD) ?_;refine jE (dt 0 (m:=1) (F:=fun _=>ap s) rfl (ZA _) (fun _=>rfl) (fun j hj=>by obtain rfl:j=0:=O;exact Z)) ?_;refine eA ?_;refine jq Of ?_;refine U 700051 ?_
 exact bi (.inl rfl) (Uv 269 c p1) _ [0] jD rfl ((aK rfl (ai rfl)).ent (by refine aa.fn3 (aa.rp ?_) cP (aa.rp ?_)<;>(intro j hj;obtain rfl:j=0:=O;exact Z))) ⟨_,rfl,rfl⟩
theorem C3 {gs:List Nat} (s:I) (c:UInt8):AC gs prog 233 [] [ap s,ap [c]] (fun r H'=>∃ g,r=Uv 269 c g∧H'=[(g,.blk 1 (fun _=>ap s))]):=by
 refine ae 8 func233 fun _ _ _ _=>?_;refine U 116516 ?_
 refine aq (yc (Mg s c) ?_)
 rintro _ _ ⟨p1,rfl,rfl⟩
 refine U 700051 ?_
 exact bi (.inl rfl) _ _ [0] jD rfl (aK rfl (ai rfl)) ⟨_,rfl,rfl⟩
theorem FO {c:UInt8} {s rest:I} {k:Nat} (h:(aC c s).drop k=aC c rest):k<(aC c s).length:=by
 have:=qg c rest
 rw [← h] at this
 apply a1x
 intro hn
 exact this (aux O)
theorem vf {α:Type} {l:List α} {k:Nat} {d x:α} {r:List α} (h:l.drop k=x::r):l.getD k d=x∧l.drop (k+1)=r:=by
 have h1:l[k]?=some x:=by
  have:=ZV (fun m=>m[0]?) h
  simpa using this
 exact ⟨by simp [List.getD,h1],by rw [← aZx,h];rfl⟩
theorem Mv {gs:List Nat} (s:I) (c:UInt8) (g:Option Nat) (hs:s.length≤100000000000):PY gs prog 269 [(g,.blk 1 (fun _=>ap s))] ((List.range 3).map (fl [.rp 1 fun _=>ap [c],.op 0 g 0,.rp 1 fun _=>.c (.int .i64 0)])) (aC c s).length (fun k=>[ap ((aC c s).getD k [])]):=fun l J Jx hY=>by
 refine GR true 52 func269 rfl rfl rfl (fun _ _ _ _=>?_)
 refine U 52400006067 ?_;refine an (fun h38=>?_) fun h38=>?_
 ·exfalso;simp at h38
 refine U 207810 ?_;refine ar (α:=Nat×I) [7,8,29,30,31,32,33,34,35,36,37,38,39,40,41,42,43,44,45,46,47,48] (fun _=>[]) (fun (k,rest)=>[(g,.blk 1 (fun _=>ap rest)),(some l,.obj (J k))]) (fun (k,rest)=>(aC c s).drop k=aC c rest∧rest.length≤s.length) (fun (k,rest)=>rest.length) ((0,s)) ?_ (fun _=>rfl) ?_ ?_ ?_
 exact ⟨rfl,ZA _⟩
 exact .nil
 exact .same (.same .nil)
 ·rintro ⟨k,rest⟩ ⟨hk,hlen⟩
  have hkl:=FO hk
  have hcut:=HU c rest
  refine U 6050620 ?_
  refine aq (ak (Kw rest c) ?_)
  refine U 5216751 ?_;refine an (fun h50=>?_) fun h50=>?_
  ·refine U 12008400020008000020006000 ?_
   have hsp:aC c rest=[rest]:=by
    rcases hcut with h|⟨q,r,_,h,_⟩
    exact h.2
    omega
   have hk2:=vf (d:=[]) (hk.trans hsp)
   have hm:(aC c s).length=k+1:=by
    have:=ZV List.length hk2.2
    simp at this
    omega
   refine U 50 ?_
   refine Bu (aU rfl) rfl (BX (i:=1) rfl rfl rfl (hY k hkl) (.cons (se rfl (aa.strL hk2.1.symm)) .nil) rfl rfl ?_)
   rintro _ _ (⟨rfl,rfl⟩|⟨rfl,rfl⟩)
   ·refine ⟨_,_,rfl,Z,?_⟩
    refine U 5 ?_
    exact bi (.inr rfl) _ _ [1] jD rfl (br rfl) (.inl (by rw [hm];rfl))
   ·refine ⟨_,_,rfl,Z,?_⟩
    refine U 5 ?_
    exact bi (.inr rfl) _ _ [1] jD rfl (br rfl) (.inr rfl)
  refine U 810 ?_
  obtain ⟨q,r,hr,hi,hsp⟩:∃ q r,rest=q++c::r∧Lib.indexByte rest c=(q.length:Nat)∧aC c rest=q::aC c r:=by
   rcases hcut with h|h
   omega
   exact h
  have hk2:=vf (d:=[]) (hk.trans hsp)
  have hql:q.length<rest.length:=by rw [hr];simp
  refine U 9601506 ?_;refine jq (rR rfl rfl underlying9 rfl (show _=((q.length:Nat):Int) by omega) (by omega)) ?_;refine U 116751 ?_
  refine Bu (aU rfl) rfl (BX (i:=1) rfl rfl rfl (hY k hkl) (.cons (se rfl (aa.strL (by rw [hk2.1,hr];simp))) .nil) rfl rfl ?_)
  rintro _ _ (⟨rfl,rfl⟩|⟨rfl,rfl⟩)
  ·refine ⟨_,_,rfl,Z,?_⟩
   refine U 200810300530 ?_;refine kj (gy (hn:=by omega)) ?_;refine U 1 ?_;refine jq (kF (hn:=by omega)) ?_;refine jq Xi ?_;refine jq (P3 (hS:=by show _∧_;((simp only [List.length_cons,List.length_nil];omega)))) ?_;refine jq (xy rfl rfl underlying9 rfl (show _=(((q.length+1):Nat):Int) by (simp only [List.length_cons,List.length_nil];omega)) (by omega)) ?_
   refine aw (bn 1 ?_ (hn:=by omega))
   refine U 84005 ?_
   refine am ((k+1,rest.drop (q.length+1))) ?_ ?_ (h5:=?_) (h7:=?_)
   exact ⟨by rw [hk2.2,hr];simp,by rw [ZI];omega⟩
   ·show (rest.drop (q.length+1)).length<rest.length;rw [ZI];omega
   exact .nil
   exact .blk rfl (fun j hj=>by obtain rfl:j=0:=O;exact Z) (.same .nil)
  ·refine ⟨_,_,rfl,Z,?_⟩
   refine U 3000500030005000300070009000530 ?_
   exact bi (.inl rfl) _ _ [1] jD rfl (br rfl) (.inr rfl)
theorem aa.nilO {i k:Nat}:aa (.c (.slice none 0 0)) (.os i none 0 0 k):=fun al St w v h=>⟨rfl,h⟩
theorem qf (c:UInt8):∀ l:I,(aC c l).length≤l.length+1
 | []=>by simp [aC]
 | x::l=>by
  have ih:=qf c l
  rw [aC]
  split
  ·simp;omega
  ·have h:∀ ls:Zx,ls≠[]→(nC x ls).length=ls.length:=fun ls h=>by cases ls<;>simp_all [nC]
   rw [h _ (qg c l)]
   simp;omega
theorem sY {c:UInt8}:∀ {l p:I},p ∈ aC c l→p.length≤l.length
 | [],p,h=>by simp [aC] at h;simp [h]
 | x::l,p,h=>by
  rw [aC] at h
  split at h
  ·rcases Z9.1 h with rfl|h
   ·simp
   ·have:=sY h;simp;omega
  ·cases hs:aC c l with
   | nil=>exact absurd hs (qg c l)
   | cons q r =>
    rw [hs,nC] at h
    rcases Z9.1 h with rfl|h
    ·have:=sY (c:=c) (l:=l) (p:=q) (by rw [hs];exact ZU ..)
     simp;omega
    ·have:=sY (c:=c) (l:=l) (p:=p) (by rw [hs];exact Z2 _ h)
     simp;omega
theorem kr {α:Type} {l:List α} {k:Nat} (d:α) (h:k<l.length):l.take (k+1)=l.take k++[l.getD k d]:=by
 rw [ZH h]
 simp [List.getD,h]
theorem dZ {α:Type} {l:List α} {k:Nat} (d:α) (h:k<l.length):l.getD k d ∈ l:=by
 simp [List.getD,h]
theorem uC {s:I} (h:(aC 46 s).all Ae=false):(bq s).1=[]∧(bq s).2=4:=by
 unfold bq;rw [Zz h];exact ⟨rfl,rfl⟩
theorem vy {s:I} (h:(aC 46 s).all Ae=true) (h2:dz ((aC 46 s).map o9)=false):(bq s).1=[]∧(bq s).2=1:=by
 unfold bq;rw [Zy (by simp [h]),Zz h2];exact ⟨rfl,rfl⟩
theorem xF {s:I} (h:(aC 46 s).all Ae=true) (h2:dz ((aC 46 s).map o9)=true):(bq s).1=(aC 46 s).map o9∧(bq s).2=0:=by
 unfold bq;rw [Zy (by simp [h]),Zy (by simp [h2])];exact ⟨rfl,rfl⟩
theorem i6 {α:Type} {p:α→Bool} {l:List α} {k:Nat} (d:α) (h:k<l.length) (hp:p (l.getD k d)=false):l.all p=false:=by
 cases e:l.all p with
 | false=>rfl
 | true =>
  have:=Z1.1 e _ (dZ d h)
  rw [hp] at this;cases this
theorem JS (s:I) (hs:s.length≤1000000000):cd gs prog 195 [ap s] (.tup 2 (fl [CE (bq s).1,.err (bq s).2])):=by
 have hpl:=qf 46 s
 refine ae 33 func195 fun _ _ _ _=>?_;refine eA ?_
 refine aq (dh (n:=1) Lz rfl fun p1=>?_)
 refine aq (dh (n:=1) Wj rfl fun p2=>?_)
 refine U 65 ?_
 refine aq (dh (n:=1) Lz rfl fun p3=>?_)
 refine U 1675 ?_
 refine aq (yc (C3 s 46) ?_)
 rintro _ _ ⟨gS,rfl,rfl⟩
 refine U 205 ?_;refine jE (dt 0 (m:=1) (F:=fun _=>.c (.slice none 0 0)) rfl (ZA _) (fun _=>rfl) (fun j hj=>by obtain rfl:j=0:=O;exact Z)) ?_;refine jE (dt 1 (m:=1) (F:=fun _=>.c .nilIface) rfl (ZA _) (fun _=>rfl) (fun j hj=>by obtain rfl:j=0:=O;exact Z)) ?_;refine jE (dt 2 (m:=1) (F:=fun _=>.os 3 none 0 0 1) rfl (ZA _) (fun _=>rfl) (fun j hj=>by obtain rfl:j=0:=O;exact aa.nilO)) ?_;refine jE (f8 (qG [])) ?_;refine yA (π:=List Int×Option Nat) (q:=List Int×Option Nat) ((aC 46 s).length) (fun k=>[ap ((aC 46 s).getD k [])]) ([(gS,.blk 1 (fun _=>ap s))]) (fun (X,ga)=>[(p1,.blk 1 (fun _=>.c (.slice none 0 0))),(p2,.blk 1 (fun _=>.c .nilIface)),(p3,.blk 1 (fun _=>.os 3 ga 0 X.length 1)),(ga,.blk X.length (qG X))]) (fun k (X,ga)=>X=((aC 46 s).take k).map o9∧((aC 46 s).take k).all Ae=true) (fun (X,ga)=>[(p1,.blk 1 (fun _=>.c (.slice none 0 0))),(p2,.blk 1 (fun _=>.err 4)),(p3,.blk 1 (fun _=>.os 3 ga 0 X.length 1)),(ga,.blk X.length (qG X))]) (fun c _=>c=.ret∧(aC 46 s).all Ae=false) (([],none)) [3,0,1,2,4] rfl rfl (by kernel_rfl) (Mv s 46 gS O) (⟨rfl,rfl⟩) jD rfl (fun _ _=>rfl) rfl ?_ ?_ ?_
 ·intro k hk l al2 w2 F2 S2 R0 R1
  rintro ⟨X,ga⟩ ⟨hX,hall⟩
  have hXl:X.length≤k:=by rw [hX,axx,ZK];omega
  have hpp:=sY (dZ (l:=aC 46 s) [] hk)
  refine U 51200 ?_;refine vS ?_;refine U 1620 ?_
  refine aq (ak (Qq ((aC 46 s).getD k [])) ?_)
  refine U 15000001675119009001 ?_;refine aH 18 (fun g34=>?_) fun g34=>?_
  ·refine U 790005100000000444 ?_;refine lQ (.rd 0 (.one 1 (.one 2 .done))) ?_;refine jy (cK 3) ?_
   refine lP (bn 1 ?_)
   refine lP (bn 1 ?_)
   refine U 5000300070008700000 ?_;refine ql ((X,ga)) ?_ rfl ?_
   exact ⟨rfl,i6 [] hk (by unfold Ae;(simp_all;done))⟩
   exact .blk rfl (fun j hj=>by obtain rfl:j=0:=O;exact Z) (.blk rfl (fun j hj=>by obtain rfl:j=0:=O;exact Z) (.same (.same (.same .nil))))
  refine U 55002400001 ?_;refine an (fun h34=>?_) fun h34=>?_
  ·refine ia ?_;refine lQ (.rd 0 (.one 1 (.one 2 .done))) ?_;refine jy (cK 3) ?_
   refine lP (bn 1 ?_)
   refine lP (bn 1 ?_)
   refine U 5000300070008700000 ?_;refine ql ((X,ga)) ?_ rfl ?_
   exact ⟨rfl,i6 [] hk (by unfold Ae;(simp_all;omega))⟩
   exact .blk rfl (fun j hj=>by obtain rfl:j=0:=O;exact Z) (.blk rfl (fun j hj=>by obtain rfl:j=0:=O;exact Z) (.same (.same (.same .nil))))
  refine U 150200810 ?_
  refine aq (aM 1 1 rm fun p4=>?_)
  refine aw (aB lf (l2:=[o9 ((aC 46 s).getD k [])]) rfl rfl rfl rfl (by exact aqx (ZS _)) (fun _ _=>Z) (aI rfl (.inl rfl) jD) rfl (qH (.cons (cI (rfl)) .nil)) underlying106 oN Ls rm Lv rfl (by (simp;omega)) (by (simp;omega)) (bw rfl rfl) rfl rfl (ZS _) (fun p5=>?_))
  refine aw (bn 1 ?_)
  refine U 4005 ?_;refine rN ((X++[o9 ((aC 46 s).getD k [])],p5)) ?_ rfl ?_
  exact ⟨by rw [hX,kr [] hk,a0x];rfl,by rw [kr [] hk,bTx,hall];simp only [a4x,List.all_nil,Bool.and_true,awx,Ae];(simp_all;omega)⟩
  exact .same (.same (.blk rfl (fun j hj=>by obtain rfl:j=0:=O;exact Z) (.same (.same .nil))))
 ·rintro ⟨X,ga⟩ ⟨hX,hall⟩
  rw [ZW] at hX hall
  refine U 50678400 ?_;refine aA (freeze 3 rfl) ?_;refine aA (wZ 28 X rfl rfl rfl (bfx (ZA _)) (fun j hj=>Z)) ?_
  refine aq (ak (Ac X) ?_)
  refine U 530 ?_;refine an (fun h39=>?_) fun h39=>?_
  ·refine ia ?_;refine lQ (.rd 0 (.one 1 (.one 2 .done))) ?_;refine jy (cK 0) ?_
   refine lP (bn 1 ?_)
   refine lP (bn 1 ?_)
   refine U 8700000 ?_
   refine jR (l9 (eN (hres:=di rfl wi wi) (hv:=?_)))
   have hb:=vy hall (by rw [← hX];simpa using h39)
   exact cT (aa.nilS' (by rw [hb.1];rfl)) (aa.errN hb.2)
  refine U 506810 ?_;refine aA (wZ 32 X rfl rfl rfl (bfx (ZA _)) (fun j hj=>Z)) ?_
  refine aw (bn 1 ?_)
  refine aw (bn 1 ?_)
  refine U 5 ?_
  refine jR (eN (hres:=di rfl wi wi) (hv:=?_))
  have hb:=xF hall (by rw [← hX];simpa using h39)
  exact cT (show aa (CE X) _ from aa.of_eq (by rw [hb.1,hX])) (aa.nilE hb.2)
 ·rintro _ ⟨X,ga⟩ ⟨rfl,hbad⟩
  refine .inl ⟨rfl,?_⟩
  refine Oh (l9 (eN (hres:=di rfl wi wi) (hv:=?_)))
  have hb:=uC hbad
  exact cT (aa.nilS' (by rw [hb.1];rfl)) (aa.errN hb.2)
theorem xE {s:I} (h:(bq s).2=0):dz (bq s).1=true:=(py (s:=s) (l:=(bq s).1) (by rw [← h])).1
theorem Da {l:List Int} {i:Nat} (h:i<(l.drop 2).length):(((l.drop 2).take (i+1)).map fun n=>ez n.toNat).flatten=(((l.drop 2).take i).map fun n=>ez n.toNat).flatten++ez (l.getD (2+i) 0).toNat:=by
 rw [kr 0 h,a0x,aSx]
 simp [List.getD]
theorem nO {l:List Int} (h:∀ n ∈ l,0≤n∧n≤2147483647):((l.map fun n=>ez n.toNat).flatten).length≤5 * l.length:=by
 induction l with
 | nil=>simp
 | cons a l ih =>
  have h1:=ku (n:=a.toNat) (by have:=h a (by simp);omega)
  have h2:=ih fun n hn=>h n (by simp [hn])
  simp at h2 ⊢
  omega
theorem RG (s:I) (hs:s.length≤1000000000):cd gs prog 156 [ap s] (.tup 2 (fl [bc (iK s),.err (bq s).2])):=by
 refine ae 39 func156 fun _ _ _ _=>?_;refine U 165116 ?_
 refine aq (ak (JS s hs) ?_)
 refine U 55000001675119009001 ?_;refine an (fun h70=>?_) fun h70=>?_
 ·refine U 51116 ?_
  refine jR (l9 (eN (hv:=cT (aa.nilS' (by unfold iK;rw [jK];rfl)) Z)))
 refine U 7810 ?_
 obtain ⟨hl2,hl16,hall,ha,hb⟩:=kz (xE (s:=s) O)
 obtain ⟨l,hl⟩:∃ l,(bq s).1=l:=⟨_,rfl⟩
 rw [hl] at hl2 hl16 hall ha hb ⊢
 have h0:=hall _ (dZ (l:=l) (k:=0) 0 O)
 have h1:=hall _ (dZ (l:=l) (k:=1) 0 O)
 refine dQ (.rd 0 (.rd 1 (.rd 2 (.rd 3 (.rd 4 (.rd 5 (.rd 6 (.rd 7 (.one 8 (.rd 9 .done)))))))))) ?_;refine U 70 ?_;refine aJ (dP (i:=0)) ?_;refine U 703000070000 ?_;refine aJ (dP (i:=1)) ?_;refine U 3000070000 ?_
 refine gp (yd (xg (40 * l.getD 0 0+l.getD 1 0).toNat O) (fun p1=>?_) (ho:=rfl) (he:=(.cons (se rfl (cI O)) .nil)))
 refine U 16788070 ?_;refine jq (D7 (hl:=(ci rfl (show (2:Int)=((2:Nat):Int) from rfl))) (hu:=(bv _ _))) ?_;refine U 20513 ?_;refine ar (α:=Nat×I×Option Nat) [6,8,29,30,31,32,33,34,35,36,37] (fun (i,o,g)=>[(6,.os 0 g 0 o.length 1),(29,.c (.int .i64 (i:Nat)))]) (fun (i,o,g)=>[(g,.blk o.length (aV o))]) (fun (i,o,g)=>i≤l.length-2∧o=ez (40 * l.getD 0 0+l.getD 1 0).toNat++(((l.drop 2).take i).map fun n=>ez n.toNat).flatten) (fun (i,o,g)=>l.length-i) ((0,ez (40 * l.getD 0 0+l.getD 1 0).toNat,p1)) ?_ (fun _=>rfl) ?_ ?_ ?_
 exact ⟨ZL _,by simp⟩
 exact .cons Z (.cons Z .nil)
 exact .same .nil
 ·rintro ⟨i,o,g⟩ ⟨(hi:i≤l.length-2),ho⟩
  have hol:o.length≤5+5 * i:=by
   rw [ho,ZD]
   have e1:=ku (n:=(40 * l.getD 0 0+l.getD 1 0).toNat) O
   have e2:=nO (l:=(l.drop 2).take i) (fun n hn=>hall n (cmx (b3x hn)))
   rw [ZK,ZI] at e2
   omega
  refine U 7526 ?_;refine aaa (fun h74=>?_) fun h74=>?_
  ·refine U 5111684000200020006000 ?_;refine jE (freeze 0 rfl) ?_;refine jE (er 2 (o) rfl rfl (by rfl) rfl) ?_;refine U 80007000 ?_
   refine cT (aa.bs ?_) (aa.nilE O)
   unfold iK
   rw [jP,hl,ho,ZY (by rw [ZI];omega)]
   rfl
  refine U 51607006207810 ?_
  have h3:=hall _ (dZ (l:=l) (k:=2+i) 0 O)
  have h4:=ku (n:=(l.getD (2+i) 0).toNat) O
  refine U 11200 ?_
  refine aq (yd (xg (l.getD (2+i) 0).toNat O) (fun p2=>?_) (ho:=rfl) (he:=(.cons (se rfl (cI O)) .nil)))
  refine aw (ay rfl rfl rfl (ZA _) (fun _ _=>Z) (aI rfl (.inl rfl) O) rfl (fun j hj=>by rw [Nat.zero_add];exact Z) underlying23 dV fR da jt rfl O (fun j hj=>rfl) rfl rfl (fun p3=>?_))
  refine U 8519200840051 ?_
  refine am ((i+1,o++ez (l.getD (2+i) 0).toNat,p3)) ?_ ?_ (h5:=?_) (h7:=?_)
  exact ⟨by omega,by rw [ho,Da (by rw [ZI];omega),Z8]⟩
  show l.length-(i+1)<l.length-i;omega
  exact .cons Z (.cons (cI O) .nil)
  exact .same .nil
theorem wx (s:I):(iK s).length≤100:=by
 unfold iK
 split
 ·rename_i h
  obtain ⟨hl2,hl16,hall,ha,hb⟩:=kz (xE h)
  unfold BP
  have h0:=hall _ (dZ (l:=(bq s).1) (k:=0) 0 O)
  have h1:=hall _ (dZ (l:=(bq s).1) (k:=1) 0 O)
  have e1:=ku (n:=(40 * (bq s).1.getD 0 0+(bq s).1.getD 1 0).toNat) O
  have e2:=nO (l:=(bq s).1.drop 2) (fun n hn=>hall n (cmx hn))
  rw [ZI] at e2
  rw [ZD]
  omega
 ·simp
end
end Am
end Go.Proofs.YtghminnpfnkbjaaGreatDoor
namespace Go.Proofs.YtghminnpfnkbjaaGreatDoor
open Go.RowKit Go.ChangeShapes
def oP (x:String×DataW Unit):Bool:=match x.2 with
 | .iface nm (.ptr (.agg [.lit (.string _)])) => nm == "*errors.errorString"
 | _=>false
theorem Kr {x : String × DataW Unit} (h : oP x = true) : ∃ text, x.2 = .iface "*errors.errorString" (.ptr (.agg [.lit (.string text)])) := by
 have ⟨n,d⟩:=x
 unfold oP at h
 dsimp only at h ⊢
 split at h
 exact ⟨_,by rw [eq_of_beq h]⟩
 ·cases h
theorem Ay {P:Program} {W:World} {nm:String} {ti tp te ts:TypeId} {ms:Array (String×TypeId)} {f:Field}
  (hi:P.underlying ti=some (.interface ms)) (hrow:∀ u,P.typeName? 3 u=some nm→u=tp)
  (hp:P.underlying tp=some (.pointer te)) (he:P.underlying te=some (.struct #[f])) (hft:f.type=ts) (hfo:f.offset=0) (hs:P.underlying ts=some .string) (hc:P.cellsOf te=1) (hcs:P.cellsOf ts=1) :
  ∀ (L:List (String×DataW Unit)) (ps:List MemPlace),DataW.LaidVars P W L ps →
   (∀ b off,MemPlace.cell b off ∈ ps→(∃ c t,W.heap[b]?=some (.cells c t (0,0)))∧∀ u v,W.cell? ⟨b,off,none⟩=some (.iface u v)→Value.okWide P W .any 0 u v)→ps.Nodup →
   (∀ x ∈ L,oP x=true→(∃ text,x.2=.iface nm (.ptr (.agg [.lit (.string text)])))∧∀ g,P.globalNamed x.1=some g→(P.globals[g]?).map (·.type)=some ti) →
   ∃ al:List Addr,al.length=(L.filter oP).length∧al.Nodup∧(∀ a ∈ al,a.spot=none∧MemPlace.cell a.block a.off ∈ ps) ∧
    ∀ (i:Nat) (x:String×DataW Unit) (a:Addr),(L.filter oP)[i]?=some x→al[i]?=some a→∃ g,P.globalNamed x.1=some g∧W.cell? ⟨g,0,none⟩=some (.iface tp (.pointer (some a)))
 | [],ps,_,_,_,_=>⟨[],rfl,cTx,by simp,by simp⟩
 |(n,d)::r,ps,hv,hrows,hnd,hL=>by
  obtain ⟨g,t,cs,fuel,p,q,hg,ht,hvar,hd,hrest,rfl⟩:=hv
  have hnq:q.Nodup:=List.Nodup.sublist (List.sublist_append_right _ _) hnd
  obtain ⟨al,h1,h2,h3,h4⟩:=Ay hi hrow hp he hft hfo hs hc hcs r q hrest (fun b off hm=>hrows b off (bwx _ hm)) hnq (fun x hx=>hL x (Z2 _ hx))
  by_cases hE:oP (n,d)=true
  case neg =>
   have hE:oP (n,d)=false:=by simpa using hE
   rw [List.filter_cons_of_neg (by simp [hE])]
   exact ⟨al,h1,h2,fun a ha=>⟨(h3 a ha).1,bwx _ (h3 a ha).2⟩,h4⟩
  obtain ⟨⟨text,hx⟩,hty⟩:=hL (n,d) (ZU ..) hE
  rw [List.filter_cons_of_pos hE]
  simp only at hx
  subst hx
  obtain rfl:=Z3 ((hty g hg).symm.trans ht)
  have ⟨l⟩:=cs
  have hcell0:∀ v,l=[v]→W.cell? ⟨g,0,none⟩=some v:=fun v e=>by
   subst e
   simpa using World.var?_cell hg hvar 0
  obtain ⟨a,s,rfl,ha,_,_,rfl⟩:=errorString_of_trod hi hrow hp he hft hfo hs hc hcs hd (fun u v e=>by
   simp only at e
   subst e
   exact (hrows g 0 (by simp [MemPlace.row])).2 u v (hcell0 _ rfl))
  have hsp:a.spot=none:=World.cell?_spot ha
  have hpl:MemPlace.cell a.block a.off ∈ MemPlace.row a 1:=by simp [MemPlace.row]
  refine ⟨a::al,by simp [h1],bQx.2 ⟨fun hm=>?_,h2⟩,?_,?_⟩
  ·have hq:=(h3 a hm).2
   have:=(List.nodup_append.1 hnd).2.2 (MemPlace.cell a.block a.off) (bwx _ hpl) _ hq
   exact this rfl
  ·intro b hb
   rcases Z9.1 hb with rfl|hb
   exact ⟨hsp,List.mem_append_left _ (bwx _ hpl)⟩
   exact ⟨(h3 b hb).1,bwx _ (h3 b hb).2⟩
  ·intro i x b hi' hb
   match i,hi',hb with
   | 0,hi',hb =>
    simp only [aFx,adx] at hi' hb
    subst hi'
    subst hb
    exact ⟨g,hg,hcell0 _ rfl⟩
   | i+1,hi',hb=>exact h4 i x b (by simpa using hi') (by simpa using hb)
theorem QF (u : TypeId) (h : prog.typeName? 3 u = some "*errors.errorString") : u = 338 := by
 have e : "*errors.errorString" = "*" ++ "errors.errorString" := by decide +kernel
 exact typeName_ptr_named (nm := "errors.errorString") (by rw [← e]; kernel_rfl) (by kernel_rfl) jD u (by rw [← e]; exact h)
theorem Px:prog.cellsOf 360=1:=by kernel_rfl
theorem Pw:prog.cellsOf 9=1:=by kernel_rfl
theorem Bx {W:World} {L:List (String×DataW Unit)} {g0:List Nat} (h:laidMetH prog L W) (h1:(L.all fun x=>x.2.handleName?.isNone)=true)
  (h3:((L.filter oP).map fun x=>prog.globalNamed x.1)=(nz g0).map some) (h4:((nz g0).map fun g=>(prog.globals[g]?).map (·.type))=List.replicate (nz g0).length (some 37))
  (ht:wa ∈ pF g0→v6 ∈ pF g0→Lib.Utf8Tabs wa v6 W) (hAB:((pF g0).contains wa)=((pF g0).contains v6))
  (hX:∀ t ∈ oV,t.1 ∈ pF g0→∀ (i:Nat) (v:Value),t.2[i]?=some v→W.cell? ⟨t.1,i,none⟩=some v):∃ al,gc W g0 al:=by
 rw [MakeChecks.laidMetH_plain _ _ _ h1] at h
 have ⟨ps,hv,hnd,hrows⟩:=h
 have hlen:(L.filter oP).length=(nz g0).length:=by simpa using ZV List.length h3
 have hgl:∀ (i:Nat) (x:String×DataW Unit),(L.filter oP)[i]?=some x→∃ g,(nz g0)[i]?=some g∧prog.globalNamed x.1=some g:=by
  intro i x hx
  have:=ZV (fun l=>l[i]?) h3
  simp only [aBx,hx,bzx] at this
  have ⟨g,hg,e⟩:=ZG.1 this.symm
  exact ⟨g,hg,e.symm⟩
 have ⟨al,l1,l2,l3,l4⟩:=Ay underlying37 QF underlying338 underlying360 rfl rfl underlying9 Px Pw L ps hv hrows hnd
  (fun x hx hE=>⟨Kr hE,fun g hg=>by
   obtain ⟨i,hi⟩:=bVx.1 (cox.2 ⟨hx,hE⟩)
   have ⟨g',hg',e⟩:=hgl i x hi
   obtain rfl:=Z3 (e.symm.trans hg)
   have:=ZV (fun l=>l[i]?) h4
   simp only [aBx,hg',bzx] at this
   have hlt:i<(nz g0).length:=(ZC.1 hg').1
   rw [aHx,Zz hlt] at this
   exact Z3 this⟩)
 have hvar:∀ i g,(nz g0)[i]?=some g→W.cell? ⟨g,0,none⟩=some (ev al (i+1)):=by
  intro i g hg
  have hlt:i<(nz g0).length:=(ZC.1 hg).1
  obtain ⟨x,hx⟩:∃ x,(L.filter oP)[i]?=some x:=⟨(L.filter oP)[i],ZM O⟩
  obtain ⟨a,ha⟩:∃ a,al[i]?=some a:=⟨al[i],ZM O⟩
  have ⟨g',hg',e⟩:=hgl i x hx
  obtain rfl:=Z3 (hg.symm.trans hg')
  have ⟨g2,e2,hc⟩:=l4 i x a hx ha
  obtain rfl:=Z3 (e.symm.trans e2)
  rw [hc]
  simp [ev,ha]
 refine ⟨al,by omega,fun i j g g' hi _ hj _ e=>(cCx (by have:=(ZC.1 hi).1;omega) l2).1 e,fun i g hi _=>hvar i g hi,fun a ha=>(hrows a.block a.off (l3 a ha).2).1,ht,hX,fun g hg=>?_⟩
 by_cases hTX:(oV.any fun t=>Nat.beq g t.1)=true
 ·have ⟨t,ht1,ht2⟩:=brx.1 hTX
  have ht2:=acx ht2
  subst ht2
  have hne:∀ t ∈ oV,∃ v,t.2[0]?=some v:=by
   intro t ht
   simp only [oV,Z9,ahx,or_false] at ht
   rcases ht with rfl|rfl<;>exact ⟨_,rfl⟩
  have ⟨v,hv⟩:=hne t ht1
  exact World.block_lt_of_cell? W _ (hX t ht1 hg 0 v hv)
 by_cases hT:(Nat.beq g wa || Nat.beq g v6)=true
 ·have hc:wa ∈ pF g0∧v6 ∈ pF g0:=by
   rcases b7x.1 hT with e|e
   ·have:=acx e
    subst this
    have h5:(pF g0).contains wa=true:=bvx.2 hg
    exact ⟨hg,bvx.1 (hAB ▸ h5)⟩
   ·have:=acx e
    subst this
    have h5:(pF g0).contains v6=true:=bvx.2 hg
    exact ⟨bvx.1 (hAB.symm ▸ h5),hg⟩
  have hU:=ht hc.1 hc.2
  rcases b7x.1 hT with e|e
  ·have:=acx e
   subst this
   exact World.block_lt_of_cell? W _ (hU.1 0 jD)
  ·have:=acx e
   subst this
   exact World.block_lt_of_cell? W _ (hU.2 0 jD).1
 ·have hm:g ∈ nz g0:=cox.2 ⟨(td.1 hg).1,by
   cases hb:Om g with
   | true =>
    unfold Om at hb
    rcases b7x.1 hb with hb|hb
    exact absurd hb hT
    exact absurd hb hTX
   | false=>rfl⟩
  have ⟨i,hi⟩:=bVx.1 hm
  exact World.block_lt_of_cell? W _ (hvar i g hi)
end Go.Proofs.YtghminnpfnkbjaaGreatDoor
namespace Go.Proofs.YtghminnpfnkbjaaGreatDoor
open Go.RowKit Go.ChangeShapes
def Fq:Go.Shelf.Ren:=⟨fun n=>n,fun|5=>5|119=>300|138=>302|139=>303|n=>n,fun|3=>30|4=>31|n=>n⟩
theorem L0:U8Types prog Fq where
 t5:=underlying5
 t119:=underlying300
 t138:=underlying302
 t139:=underlying303
theorem L8:U8Extra prog Fq where
 n3:=by kernel_rfl
 n4:=by kernel_rfl
 y3:=by kernel_rfl
 y4:=by kernel_rfl
 c5:=by kernel_rfl
 c119:=by kernel_rfl
 c138:=by kernel_rfl
theorem Bp {W : World} {L : List (String × DataW Unit)} (h : laidMetH prog L W) (h1 : (L.all fun x => x.2.handleName?.isNone) = true) {i j : Nat} (hi : L[i]? = some ("unicode/utf8.first", Lib.firstData)) (hj : L[j]? = some ("unicode/utf8.acceptRanges", Lib.acceptData)) : Lib.Utf8Tabs wa v6 W := by
 rw [MakeChecks.laidMetH_plain _ _ _ h1] at h
 have ⟨ps,hv,hnd,hrows⟩:=h
 exact utf8Tabs_of_readsT (ρ:=Fq) L0 L8 (Lib.LaidVars_reads hv _ _ (azx hi)) (Lib.LaidVars_reads hv _ _ (azx hj))
end Go.Proofs.YtghminnpfnkbjaaGreatDoor
namespace Go.Proofs.YtghminnpfnkbjaaGreatDoor
open Go.RowKit Go.ChangeShapes
def WA:Go.Shelf.Ren:=⟨fun|196=>238|259=>252|n=>n,fun|0=>0|3=>3|4=>4|5=>5|9=>9|12=>12|46=>35|53=>259|119=>300|138=>302|139=>303|n=>n,fun|3=>30|4=>31|n=>n⟩
theorem Ul:Go.Proofs.Lays.n196 prog WA:={
 mixed:=by kernel_rfl
 f196:=func238.trans (ZV some (by kernel_rfl))
 f259:=func252.trans (ZV some (by kernel_rfl))
 t0:=underlying0
 a0:=isAgg0
 z0:=sizeOf0
 v0:=zeroValue0
 t3:=underlying3
 a3:=isAgg3
 z3:=sizeOf3
 v3:=zeroValue3
 t4:=underlying4
 a4:=isAgg4
 z4:=sizeOf4
 v4:=zeroValue4
 t5:=underlying5
 a5:=isAgg5
 z5:=sizeOf5
 v5:=zeroValue5
 t9:=underlying9
 a9:=isAgg9
 z9:=sizeOf9
 v9:=zeroValue9
 t12:=underlying12
 a12:=isAgg12
 z12:=sizeOf12
 v12:=zeroValue12
 t46:=underlying35
 a46:=isAgg35
 z46:=sizeOf35
 v46:=zeroValue35
 t53:=underlying259
 a53:=isAgg259
 z53:=sizeOf259
 v53:=zeroValue259
 t119:=underlying300
 a119:=isAgg300
 z119:=sizeOf300
 t138:=underlying302
 a138:=isAgg302
 z138:=sizeOf302
 v138:=zeroValue302
 t139:=underlying303
 a139:=isAgg303
 z139:=sizeOf303
 v139:=zeroValue303
 g3:=by kernel_rfl
 g4:=by kernel_rfl }
namespace Am
class rz (l:List Nat):Prop where
 a:wa ∈ pF l
 b:v6 ∈ pF l
instance okTT:rz YL:=⟨by decide,by decide⟩
theorem LL [rz gs] (l:I) (hl:l.length≤9223372036854775807):cd gs prog 238 [ap l] (.c (.bool (Lib.validD l))) :=
 pX fun al w St vals hs hv hr=>by
  have h0:vals.getD 0 undef=.string ⟨l.toArray⟩:=hr 0
  rw [Tw hv,h0]
  exact Any.utf8_ValidString Ul ⟨l.toArray⟩ w hl (hs.tab rz.a rz.b)
end Am
end Go.Proofs.YtghminnpfnkbjaaGreatDoor
namespace Go.Proofs.YtghminnpfnkbjaaGreatDoor
namespace Am
open Go.RowKit
section
open Go.RowKit Go.Lib
def hZ (b n c least:Nat):Prop :=
 (n=0∧c=b∧least=0∧b<128∧32≤b∧b≠127)∨(n=1∧c+192=b∧least=128∧b<224)∨(n=2∧c+224=b∧least=2048∧b<240)∨(n=3∧c+240=b∧least=65536∧b<248)
def cR (d:I) (c0:Nat):Nat→Nat
 | 0=>c0
 | j+1=>cR d c0 j * 64+bt d (j+1)-128
theorem XI {d:I} {c0 j:Nat} (hj:j≤3) (h0:c0<128) (h:∀ q,1≤q→q≤j→128≤bt d q∧bt d q≤191):cR d c0 j<33554432∧(j≤2→cR d c0 j<524288):=by
 have h1:=h 1 O
 have h2:=h 2 O
 have h3:=h 3 O
 have e0:cR d c0 0=c0:=rfl
 have e1:cR d c0 1=c0 * 64+bt d 1-128:=rfl
 have e2:cR d c0 2=(c0 * 64+bt d 1-128) * 64+bt d 2-128:=rfl
 have e3:cR d c0 3=((c0 * 64+bt d 1-128) * 64+bt d 2-128) * 64+bt d 3-128:=rfl
 have hj4:j=0∨j=1∨j=2∨j=3:=by omega
 rcases hj4 with e|e|e|e<;>rw [e]<;>omega
theorem xt {d:I} {n c least j:Nat} (hd:d≠[]) (hR:hZ (bt d 0) n c least) (hj:j<n) (hl:d.length=1+j∨bt d (j+1)<128∨191<bt d (j+1)):gw d=false:=by
 refine iC hd ?_
 unfold hZ at hR
 rcases hR with hR|hR|hR|hR
 omega
 ·rw [Ii O O,Zz ?_]
  obtain rfl:j=0:=by omega
  simp only [Nat.zero_add] at hl
  omega
 ·rw [A3 O O,Zz ?_]
  have:j=0∨j=1:=by omega
  rcases this with rfl|rfl<;>simp only [Nat.zero_add,Nat.reduceAdd] at hl<;>omega
 ·rw [EP O O,Zz ?_]
  have:j=0∨j=1∨j=2:=by omega
  rcases this with rfl|rfl|rfl<;>simp only [Nat.zero_add,Nat.reduceAdd] at hl<;>omega
theorem sS {d:I} {n c least:Nat} (hd:d≠[]) (hR:hZ (bt d 0) n c least) (hl:1+n≤d.length) (h:∀ q,1≤q→q≤n→128≤bt d q∧bt d q≤191) :
  gw d=if cR d c n<least∨1114111<cR d c n∨(55296≤cR d c n∧cR d c n<57344) then false else gw (d.drop (1+n)):=by
 have h1:=h 1 O
 have h2:=h 2 O
 have h3:=h 3 O
 unfold hZ at hR
 rcases hR with ⟨rfl,rfl,rfl,hR⟩|⟨rfl,hc,rfl,hR⟩|⟨rfl,hc,rfl,hR⟩|⟨rfl,hc,rfl,hR⟩
 ·rw [qo hd O,jK,Zy (by show ¬ (bt d 0<0∨1114111<bt d 0∨(55296≤bt d 0∧bt d 0<57344));omega)]
 ·have e:cR d c 1=(bt d 0-192) * 64+bt d 1-128:=by show c * 64+bt d 1-128=_;omega
  have hd2:=Ii (l:=d) O O
  rw [e]
  by_cases hb:(bt d 0-192) * 64+bt d 1-128<128
  ·rw [Zz (.inl hb)]
   exact iC hd (by rw [hd2,jP])
  ·rw [jK]
   exact xr hd (by rw [hd2,jK]) O O
 ·have e:cR d c 2=((bt d 0-224) * 64+bt d 1-128) * 64+bt d 2-128:=by show (c * 64+bt d 1-128) * 64+bt d 2-128=_;omega
  have hd2:=A3 (l:=d) O O
  obtain ⟨C,hC⟩:∃ C,C=((bt d 0-224) * 64+bt d 1-128) * 64+bt d 2-128:=⟨_,rfl⟩
  have hlt:C≤65535:=by omega
  rw [e,← hC]
  rw [← hC] at hd2
  by_cases hb:C<2048∨(55296≤C∧C<57344)
  ·rw [jP]
   exact iC hd (by rw [hd2,jP])
  ·rw [jK]
   exact xr hd (by rw [hd2,jK]) O O
 ·have e:cR d c 3=(((bt d 0-240) * 64+bt d 1-128) * 64+bt d 2-128) * 64+bt d 3-128:=by show ((c * 64+bt d 1-128) * 64+bt d 2-128) * 64+bt d 3-128=_;omega
  have hd2:=EP (l:=d) O O
  obtain ⟨C,hC⟩:∃ C,C=(((bt d 0-240) * 64+bt d 1-128) * 64+bt d 2-128) * 64+bt d 3-128:=⟨_,rfl⟩
  rw [e,← hC]
  rw [← hC] at hd2
  by_cases hb:C<65536∨1114111<C
  ·rw [jP]
   exact iC hd (by rw [hd2,jP])
  ·rw [jK]
   exact xr hd (by rw [hd2,jK]) O O
theorem qX (l:I) (i j:Nat):bt (l.drop i) j=bt l (i+j):=by simp [bt,List.getD]
theorem VO (l:I) (i:Nat):Utf8.decode ⟨l.toArray⟩ i=fK (l.drop i):=by
 unfold fK
 rw [Lib.decode_at,mG,mG,mG,mG,qX,qX,qX,qX,ZI]
 rfl
theorem SW {d:I} (hd:d≠[]):(fK d).2≤d.length:=by
 have hp:=aax.2 hd
 unfold fK Lib.decodeN
 repeat' split
 all_goals first|(simp only;omega)|omega
end
theorem FM [rz gs] (l:I) (hl:l.length≤1000000000):cd gs prog 201 [ap l] (.c (.bool (gw l))):=by
 refine ae 18 func201 fun _ _ _ _=>?_;refine U 167516 ?_
 refine aq (SL rfl rfl underlying9 rfl rfl (fun p1=>?_))
 refine U 205 ?_;refine ar (α:=Nat) [2,4,7,8,9,10,11,12,13,14,15] (fun i=>[]) (fun i=>[(some p1,.obj (sc ⟨l.toArray⟩ i))]) (fun i=>i≤l.length∧uH (l.drop i)=uH l) (fun i=>l.length-i) (0) ?_ (fun _=>rfl) ?_ ?_ ?_
 exact ⟨ZL _,rfl⟩
 exact .nil
 exact .same .nil
 ·rintro i ⟨hi,he⟩
  refine eA ?_
  refine Mu (aU rfl) (Vd rfl rfl rfl rfl rfl (fun n23=>?_) (fun n23=>?_))
  ·refine U 51900620810900075900 ?_
   have hd:=VO l i
   have hlt:i<l.length:=n23
   have hne:l.drop i≠[]:=by intro e;have:=ZV List.length e;simp at this;omega
   have hw:=lV (l.drop i)
   have hwl:=SW hne
   simp only [ZI] at hwl
   rw [← hd] at hw hwl
   refine U 1216 ?_;refine aH 12 (fun g24=>?_) fun g24=>?_
   ·refine U 8000300050003000500070005169000510000000044 ?_;refine cB ?_
    rw [rU,← he,pC hne,← hd,Zz ?_]
    rfl
    ·unfold wk;simp only [atx,ZJ];omega
   refine U 550021 ?_;refine an (fun h24=>?_) fun h24=>?_
   ·refine U 800030005000300050007000516 ?_;refine cB ?_
    rw [rU,← he,pC hne,← hd,Zz ?_]
    rfl
    ·unfold wk;simp only [atx,ZJ];omega
   refine U 840010 ?_
   refine am (i+(Utf8.decode ⟨l.toArray⟩ i).2) ?_ ?_ (h5:=?_) (h7:=?_)
   ·refine ⟨by omega,?_⟩
    have hb:¬ wk (Utf8.decode ⟨l.toArray⟩ i).1=true:=by unfold wk;simp only [atx,ZJ];omega
    rw [← he,pC hne,← hd,Zy hb,aZx]
   show l.length-(i+(Utf8.decode ⟨l.toArray⟩ i).2)<l.length-i;omega
   exact .nil
   exact .same .nil
  ·refine U 168400020002000600030075900 ?_
   refine aq (ak (LL l O) ?_)
   refine U 8000700051 ?_;refine cB ?_
   have e:l.drop i=[]:=aux (chx n23)
   rw [rU,← he,e]
   rfl
theorem Jh (l:I) (hl:l.length≤1000000000):cd gs prog 212 [ap l] (.c (.bool (gw l))):=by
 refine ae 94 func212 fun _ _ _ _=>?_;refine U 207516516 ?_;refine ar (α:=Nat) [2,3,4,5,6,7,8,9,10,11,12,13,14,15,16,17,18,19,20,21,22,23,24,25,26,27,28,29,30,31,32,33,34,35,36,37,38,39,40,41,42,43,44,45,46,47,48,49,50,51,52,53,54,55,56,57,58,59,60,61,62,63,64,65,66,67,68,69,70,71,72,73,74,75,76,77,78,79,80,81,82,83,84,85,86,87,88,89,90,91,92,93] (fun i=>[(3,.c (.int .i64 (i:Nat)))]) (fun _=>[]) (fun i=>i≤l.length∧gw (l.drop i)=gw l) (fun i=>l.length-i) (0) ?_ (fun _=>rfl) ?_ ?_ ?_
 exact ⟨ZL _,rfl⟩
 exact .cons Z .nil
 ·(repeat (exact aD.nil))
 ·rintro i ⟨hi,he⟩
  refine U 52400001167 ?_;refine aaa (fun h9=>?_) fun h9=>?_
  ·refine U 8000700051684000200020006000 ?_;refine cB ?_
   rw [← he,aux O]
   rfl
  refine U 5111700000008000000011620810 ?_
  have hlt:i<l.length:=by omega
  have hne:l.drop i≠[]:=by intro e;have:=ZV List.length e;simp at this;omega
  obtain ⟨b,hb⟩:∃ b,b=bt (l.drop i) 0:=⟨_,rfl⟩
  have hbl:b<256:=by rw [hb];exact vQ _ _
  refine i5 (α:=Nat×Nat×Nat) [2,4,5,6,15,16,17,18,19,20,21,22,23,24,25,26,27,28,29,30,31,32,33,34,35,36,37,38,39,40,41,42,43,44,45,46] (fun (n,c,z)=>[(4,.c (.int .i64 (c:Nat))),(5,.c (.int .i64 (n:Nat))),(6,.c (.int .i64 (z:Nat)))]) (fun _=>[]) (fun (n,c,z)=>hZ (bt (l.drop i) 0) n c z) (fun _=>rfl) ?_ ?_
  ·refine jE (bj 4 (.c (.int .i64 (b:Nat))) (cI (by rw [hb,qX];rfl))) ?_;refine U 5216 ?_;refine an (fun h11=>?_) fun h11=>?_
   ·refine U 1216 ?_;refine aH 19 (fun g12=>?_) fun g12=>?_
    ·refine U 80003000500030005000300070005169000510000000044 ?_;refine cB ?_
     rw [← he,qo hne (by rw [← hb];omega),Zz (by rw [← hb];omega)]
    refine U 550021 ?_;refine aaa (fun h12=>?_) fun h12=>?_
    ·refine U 810 ?_
     refine fy ((0,b,0)) ?_ (h5:=?_)
     ·show hZ (bt (l.drop i) 0) _ _ _
      rw [← hb];unfold hZ;omega
     exact .cons (cI O) (.cons (cI O) (.cons (cI O) .nil))
    refine U 8000300050003000500030007000516 ?_;refine cB ?_
    rw [← he,qo hne (by rw [← hb];omega),Zz (by rw [← hb];omega)]
   refine U 1216 ?_;refine aH 25 (fun g15=>?_) fun g15=>?_
   rotate_left
   ·refine U 1216300550044 ?_;refine aH 33 (fun g17=>?_) fun g17=>?_
    rotate_left
    ·refine U 1216300550044 ?_;refine aH 41 (fun g19=>?_) fun g19=>?_
     rotate_left
     ·refine U 8000300050003000500030007000516300550044 ?_;refine cB ?_
      rw [← he,iC hne (eZ (by rw [← hb];omega) (by rw [← hb];omega))]
     refine U 510000000021 ?_;refine aaa (fun h19=>?_) fun h19=>?_
     ·refine U 8000300050003000500030007000516 ?_;refine cB ?_
      rw [← he,iC hne (eZ (by rw [← hb];omega) (by rw [← hb];omega))]
     refine U 8511191200 ?_
     refine fy ((3,b-240,65536)) ?_ (h5:=?_)
     ·show hZ (bt (l.drop i) 0) _ _ _
      rw [← hb];unfold hZ;omega
     exact .cons (cI O) (.cons (cI O) (.cons (cI O) .nil))
    refine U 510000000021 ?_;refine an (fun h17=>?_) fun h17=>?_
    ·refine U 8511191200 ?_
     refine fy ((3,b-240,65536)) ?_ (h5:=?_)
     ·show hZ (bt (l.drop i) 0) _ _ _
      rw [← hb];unfold hZ;omega
     exact .cons (cI O) (.cons (cI O) (.cons (cI O) .nil))
    refine U 1216 ?_;refine aH 41 (fun g19=>?_) fun g19=>?_
    rotate_left
    ·refine U 8000300050003000500030007000516300550044 ?_;refine cB ?_
     rw [← he,iC hne (eZ (by rw [← hb];omega) (by rw [← hb];omega))]
    refine U 510000000021 ?_;refine aaa (fun h19=>?_) fun h19=>?_
    ·refine U 8000300050003000500030007000516 ?_;refine cB ?_
     rw [← he,iC hne (eZ (by rw [← hb];omega) (by rw [← hb];omega))]
    refine U 8511191200 ?_
    refine fy ((3,b-240,65536)) ?_ (h5:=?_)
    ·show hZ (bt (l.drop i) 0) _ _ _
     rw [← hb];unfold hZ;omega
    exact .cons (cI O) (.cons (cI O) (.cons (cI O) .nil))
   refine U 510000000021 ?_;refine an (fun h15=>?_) fun h15=>?_
   ·refine U 8511191200 ?_
    refine fy ((1,b-192,128)) ?_ (h5:=?_)
    ·show hZ (bt (l.drop i) 0) _ _ _
     rw [← hb];unfold hZ;omega
    exact .cons (cI O) (.cons (cI O) (.cons (cI O) .nil))
   refine U 1216 ?_;refine aH 33 (fun g17=>?_) fun g17=>?_
   rotate_left
   ·refine U 1216300550044 ?_;refine aH 41 (fun g19=>?_) fun g19=>?_
    rotate_left
    ·refine U 8000300050003000500030007000516300550044 ?_;refine cB ?_
     rw [← he,iC hne (eZ (by rw [← hb];omega) (by rw [← hb];omega))]
    refine U 510000000021 ?_;refine aaa (fun h19=>?_) fun h19=>?_
    ·refine U 8000300050003000500030007000516 ?_;refine cB ?_
     rw [← he,iC hne (eZ (by rw [← hb];omega) (by rw [← hb];omega))]
    refine U 8511191200 ?_
    refine fy ((3,b-240,65536)) ?_ (h5:=?_)
    ·show hZ (bt (l.drop i) 0) _ _ _
     rw [← hb];unfold hZ;omega
    exact .cons (cI O) (.cons (cI O) (.cons (cI O) .nil))
   refine U 510000000021 ?_;refine an (fun h17=>?_) fun h17=>?_
   ·refine U 8511191200 ?_
    refine fy ((2,b-224,2048)) ?_ (h5:=?_)
    ·show hZ (bt (l.drop i) 0) _ _ _
     rw [← hb];unfold hZ;omega
    exact .cons (cI O) (.cons (cI O) (.cons (cI O) .nil))
   refine U 1216 ?_;refine aH 41 (fun g19=>?_) fun g19=>?_
   rotate_left
   ·refine U 8000300050003000500030007000516300550044 ?_;refine cB ?_
    rw [← he,iC hne (eZ (by rw [← hb];omega) (by rw [← hb];omega))]
   refine U 510000000021 ?_;refine aaa (fun h19=>?_) fun h19=>?_
   ·refine U 8000300050003000500030007000516 ?_;refine cB ?_
    rw [← he,iC hne (eZ (by rw [← hb];omega) (by rw [← hb];omega))]
   refine U 8511191200 ?_
   refine fy ((3,b-240,65536)) ?_ (h5:=?_)
   ·show hZ (bt (l.drop i) 0) _ _ _
    rw [← hb];unfold hZ;omega
   exact .cons (cI O) (.cons (cI O) (.cons (cI O) .nil))
  ·rintro ⟨n0,c0,least⟩ hR0
   have hR:hZ (bt (l.drop i) 0) n0 c0 least:=hR0
   clear hR0
   have hRb:=hR
   rw [← hb] at hRb
   unfold hZ at hRb
   have hn3:n0≤3:=by omega
   have hc128:c0<128:=by omega
   have hl6:least≤65536:=by omega
   clear hRb
   refine U 20751916 ?_;refine ar (α:=Nat) [2,3,4,5,49,50,51,52,53,54,55,56,57,58,59,60,61,62,63,64,65,66,67,68,69,70,71,72,73,74,75,76,77,78] (fun j=>[(3,.c (.int .i64 (((i+1+j:Nat):Int)))),(4,.c (.int .i64 (cR (l.drop i) c0 j:Nat))),(5,.c (.int .i64 ((n0-j:Nat):Int)))]) (fun _=>[]) (fun j=>j≤n0∧i+1+j≤l.length∧∀ q,1≤q→q≤j→128≤bt (l.drop i) q∧bt (l.drop i) q≤191) (fun j=>n0-j) (0) ?_ (fun _=>rfl) ?_ ?_ ?_
   exact ⟨ZL _,by omega,fun q h1 h2=>by omega⟩
   exact .cons (cI O) (.cons Z (.cons Z .nil))
   ·(repeat (exact aD.nil))
   ·rintro j ⟨hj,hil,hq⟩
    have hcb:=XI (d:=l.drop i) (c0:=c0) (j:=j) O hc128 hq
    refine U 52167 ?_;refine aaa (fun h25=>?_) fun h25=>?_
    ·refine U 84000200020006000 ?_
     have hjn:j=n0:=by omega
     subst hjn
     obtain ⟨C,hjn⟩:∃ C,C=cR (l.drop i) c0 j:=⟨_,rfl⟩
     rw [← hjn] at hcb
     refine jE (bj 4 (.c (.int .i64 (C:Nat))) (cI (by rw [hjn]))) ?_;refine U 12116 ?_;refine aH 82 (fun g32=>?_) fun g32=>?_
     ·refine U 80003000500030005000700051690005100000000444444110000000044 ?_;refine cB ?_
      rw [← he,sS hne hR (by rw [ZI];omega) hq,Zz (by rw [← hjn];omega)]
     refine U 150021 ?_;refine aH 86 (fun g32_2=>?_) fun g32_2=>?_
     ·refine U 80003000500030005000700051690005100000000444444 ?_;refine cB ?_
      rw [← he,sS hne hR (by rw [ZI];omega) hq,Zz (by rw [← hjn];omega)]
     refine U 121 ?_;refine aH 89 (fun g32_3=>?_) fun g32_3=>?_
     rotate_left
     ·refine U 840010300550050044 ?_
      refine am (i+(1+j)) ?_ ?_ (h5:=?_)
      ·refine ⟨by omega,?_⟩
       rw [← he,sS hne hR (by rw [ZI];omega) hq,Zy (by rw [← hjn];omega),aZx]
      show l.length-(i+(1+j))<l.length-i;omega
      exact .cons (cI O) .nil
     refine U 550010000000021 ?_;refine an (fun h32=>?_) fun h32=>?_
     ·refine U 800030005000300050007000516 ?_;refine cB ?_
      rw [← he,sS hne hR (by rw [ZI];omega) hq,Zz (by rw [← hjn];omega)]
     refine U 840010 ?_
     refine am (i+(1+j)) ?_ ?_ (h5:=?_)
     ·refine ⟨by omega,?_⟩
      rw [← he,sS hne hR (by rw [ZI];omega) hq,Zy (by rw [← hjn];omega),aZx]
     show l.length-(i+(1+j))<l.length-i;omega
     exact .cons (cI O) .nil
    refine U 7207810 ?_
    obtain ⟨x,hx⟩:∃ x,x=bt (l.drop i) (j+1):=⟨_,rfl⟩
    have OD:(l.getD (i+1+j) 0).toNat=x:=by rw [hx,qX,show i+(j+1)=i+1+j by omega];rfl
    have hxl:x<256:=by rw [hx];exact vQ _ _
    refine U 1240000116 ?_;refine aH 57 (fun g26=>?_) fun g26=>?_
    ·refine U 80003000500030005000300050003000300050003000700051690005100000000444411000000004444 ?_;refine cB ?_
     rw [← he,xt hne hR (show j<n0 by omega) (by rw [← hx,ZI];omega)]
    refine U 150028000000011 ?_;refine aH 63 (fun g26_2=>?_) fun g26_2=>?_
    ·refine U 800030005000300050003000500030003000500030007000516900051000000004444 ?_;refine cB ?_
     rw [← he,xt hne hR (show j<n0 by omega) (by rw [← hx,ZI];omega)]
    refine U 550028000000011 ?_;refine an (fun h26=>?_) fun h26=>?_
    ·refine U 800030005000300050003000500030003000500030007000516 ?_;refine cB ?_
     rw [← he,xt hne hR (show j<n0 by omega) (by rw [← hx,ZI];omega)]
    refine U 85191200840051912005199700000008000000011916810 ?_
    refine am (j+1) ?_ ?_ (h5:=?_)
    ·refine ⟨by omega,by omega,fun q h1 h2=>?_⟩
     by_cases e:q=j+1
     ·rw [e,← hx];omega
     exact hq q h1 O
    show n0-(j+1)<n0-j;omega
    exact .cons (cI O) (.cons (cI (by show _=((cR (l.drop i) c0 j * 64+bt (l.drop i) (j+1)-128:Nat):Int);rw [← hx];omega)) (.cons (cI O) .nil))
theorem QI {M i b:Nat} (h:i≤b):Int.fdiv ((M:Nat):Int) (2 ^ (min ((i:Nat):Int).toNat b))=((M / 2 ^ i:Nat):Int):=by
 rw [bXx,bdx h,show ((2:Int) ^ i)=((2 ^ i:Nat):Int) by push_cast;rfl,aix _ (Int.natCast_nonneg _)]
 exact (b6x M (2 ^ i)).symm
theorem Fj (n:Int):IntKind.u16.wrap n=n % 65536:=by simp [IntKind.wrap,IntKind.bits,IntKind.signed]
theorem wu {M:Nat} (z:Int) (hz:z=8):IntKind.u16.wrap (((M:Nat):Int) * 2 ^ (min z.toNat 16))=((M % 256 * 256:Nat):Int):=by
 subst hz
 rw [Fj,show min (8:Int).toNat 16=8 from rfl,show ((2:Int) ^ 8)=256 from rfl]
 omega
theorem G9 {M:Nat} (z:Int) (hz:z=8):Int.fdiv ((M:Nat):Int) (2 ^ (min z.toNat 16))=((M / 256:Nat):Int):=by
 subst hz
 rw [show min (8:Int).toNat 16=8 from rfl,show ((2:Int) ^ 8)=((256:Nat):Int) from rfl,aix _ O]
 exact (b6x M 256).symm
theorem QJ {M:Nat} (z:Int) (hz:z=8):Int.fdiv ((M:Nat):Int) (2 ^ (min z.toNat 64))=((M / 256:Nat):Int):=by
 subst hz
 rw [show min (8:Int).toNat 64=8 from rfl,show ((2:Int) ^ 8)=((256:Nat):Int) from rfl,aix _ O]
 exact (b6x M 256).symm
theorem VR {a:Nat} (h:a<65536):BitVec.ofInt 16 ((a:Nat):Int)=BitVec.ofNat 16 a:=by
 apply BitVec.eq_of_toNat_eq;simp
theorem V1 {M:Nat} (h:M<65536):IntKind.u16.wrap ((BitVec.ofInt 16 ((M:Nat):Int) &&& BitVec.ofInt 16 255).toNat:Int)=((M % 256:Nat):Int):=by
 have e:(BitVec.ofInt 16 ((M:Nat):Int) &&& BitVec.ofInt 16 255).toNat=M % 256:=by
  rw [VR h,show BitVec.ofInt 16 (255:Int)=BitVec.ofNat 16 255 from rfl,BitVec.toNat_and,BitVec.toNat_ofNat,BitVec.toNat_ofNat,aQx (show M<2 ^ 16 from h)]
  exact bIx M 8
 rw [e,Fj];omega
theorem TF {a b:Nat} (ha:a<256) (hb:b<256):IntKind.u16.wrap ((BitVec.ofInt 16 ((a:Nat):Int) ||| BitVec.ofInt 16 ((b * 256:Nat):Int)).toNat:Int)=((a+256 * b:Nat):Int):=by
 have e:(BitVec.ofInt 16 ((a:Nat):Int) ||| BitVec.ofInt 16 ((b * 256:Nat):Int)).toNat=a+256 * b:=by
  rw [VR O,VR O,BitVec.toNat_or,BitVec.toNat_ofNat,BitVec.toNat_ofNat,aQx (show a<2 ^ 16 by omega),aQx (show b * 256<2 ^ 16 by omega),Nat.or_comm]
  have:=Nat.two_pow_add_eq_or_of_lt (i:=8) (b:=a) O b
  rw [show b * 256=2 ^ 8 * b by omega,← this];omega
 rw [e,Fj];omega
theorem TE {a b:Nat} (ha:a<256) (hb:b<256):IntKind.u16.wrap ((BitVec.ofInt 16 ((b * 256:Nat):Int) ||| BitVec.ofInt 16 ((a:Nat):Int)).toNat:Int)=((a+256 * b:Nat):Int):=by
 rw [BitVec.or_comm];exact TF ha hb
def jC (b:I):Nat:=dw (b.getD 1 0).toNat+256 * (if b.length=3 then dw (b.getD 2 0).toNat else 0)
theorem QK {z:Int} (q:Nat) (hz:z=(q:Int)) (h:q<8):Int.fdiv 128 (2 ^ (min z.toNat 8))=((2 ^ (7-q):Nat):Int):=by
 subst hz
 have:=lZ (n:=8) (p:=fun q=>Int.fdiv 128 (2 ^ (min ((q:Nat):Int).toNat 8)) == ((2 ^ (7-q):Nat):Int)) jD h
 exact eq_of_beq this
theorem C6 {M b:Nat} {z:Int} (q:Nat) (hz:z=(q:Int)) (h:q≤b):Int.fdiv ((M:Nat):Int) (2 ^ (min z.toNat b))=((M / 2 ^ q:Nat):Int):=by
 subst hz;exact QI h
theorem pb {k:IntKind} {L T:I} {i v:Nat} (h:L=T) (hv:(T.getD i 0).toNat=v) (hk:CQ k=true):k.wrap ((L.getD i 0).toNat:Int)=((v:Nat):Int):=by
 rw [h,hv];have:=avx (T.getD i 0);exact wV hk O O
def rn (m:Nat):Nat→Nat
 | 0=>pr m
 | j+1=>rn m j % 256 * 256
def xH (m:Nat):Nat→I
 | 0=>[UInt8.ofNat ((8-bl m % 8) % 8)]
 | j+1=>xH m j++[UInt8.ofNat (rn m j / 256)]
theorem LU {m:Nat} (h:m<65536) (j:Nat):rn m j<65536:=by
 cases j with
 | zero=>exact pp h
 | succ j=>show rn m j % 256 * 256<65536;omega
theorem Nk (m j:Nat):(xH m j).length=1+j:=by
 induction j with
 | zero=>rfl
 | succ j ih=>show (xH m j++_).length=_;rw [ZD,ih,aEx];omega
theorem Nl {m:Nat} (h:m<65536):xH m ((bl m+7) / 8)=cn m:=by
 have h3:=(tX h).2
 have r1:=eL (i:=m / 256) O
 have r2:=eL (i:=m % 256) O
 have t0:rn m 0 / 256=dw (m % 256):=by show pr m / 256=_;unfold pr;omega
 have t1:rn m 1 / 256=dw (m / 256):=by show pr m % 256 * 256 / 256=_;unfold pr;omega
 unfold cn
 by_cases h0:bl m=0
 ·rw [Zz h0,h0];simp only [Nat.reduceAdd,Nat.reduceDiv,xH,h0]
 ·rw [Zy h0]
  by_cases h8:bl m≤8
  ·rw [Zz h8,show (bl m+7) / 8=1 by omega];simp only [xH,t0];rfl
  ·rw [Zy h8,show (bl m+7) / 8=2 by omega];simp only [xH,t0,t1];rfl
def bp (M:Nat):Nat→Nat
 | 0=>0
 | i+1=>if M / 2 ^ i % 2=1 then i+1 else bp M i
theorem PB (M i:Nat):Lp (M % 2 ^ i) (bp M i)∧bp M i≤i:=by
 induction i with
 | zero=>exact ⟨⟨by simp [clx,bp],.inl rfl⟩,ZA _⟩
 | succ i ih=>exact ⟨Kt ih.1 ih.2,by have h2:=ih.2;show (if M / 2 ^ i % 2=1 then i+1 else bp M i)≤i+1;split<;>omega⟩
theorem PC {M:Nat} (h:M<32768):bp M 15=bl M:=by
 have h1:=(PB M 15).1
 rw [show M % 2 ^ 15=M by simp only [Nat.reducePow];omega] at h1
 exact Ee h1 (tX O).1
theorem VC {M n i:Nat} (hb:M / 2 ^ i % 2=1) (hi:i<15) (h:M<32768):gF M n i (1+i / 8)+2 ^ (7-i % 8)<256:=by
 have h1:=TX (n:=n) (j:=1+i / 8) hb O O
 rw [Zz rfl] at h1
 rw [← h1];exact XB O
def fQ (b:I):Nat:=(b.getD 1 0).toNat % 256 * 256+(if b.length=3 then (b.getD 2 0).toNat else 0)
theorem nJ {b:I} (h:b.length=2∨b.length=3):fQ b<65536∧pr (fQ b)=jC b:=by
 have h1:(b.getD 1 0).toNat<256:=avx _
 have h2:(b.getD 2 0).toNat<256:=avx _
 unfold fQ pr jC
 generalize (b.getD 1 0).toNat=p at *
 generalize (b.getD 2 0).toNat=q at *
 rcases h with h|h
 ·rw [jK,jK,show (p % 256 * 256+0) / 256=p by omega,show (p % 256 * 256+0) % 256=0 by omega]
  exact ⟨by omega,rfl⟩
 ·rw [Zz h,Zz h,show (p % 256 * 256+q) / 256=p by omega,show (p % 256 * 256+q) % 256=q by omega]
  exact ⟨by omega,rfl⟩
section
variable {gs:List Nat} [ib gs]
theorem pq {gs:List Nat} (x:Nat) (hx:x<65536):cd gs prog 158 [.c (.int .u16 (x:Nat))] (.c (.int .u16 (pr x:Nat))):=by
 have h1:=eL (i:=x / 256) O
 have h2:=eL (i:=x % 256) O
 refine ae 13 func158 fun _ _ _ _=>?_;refine U 7516 ?_;refine dQ (.rd 0 (.rd 1 (.rd 2 (.rd 3 (.rd 4 (.rd 5 (.rd 6 (.rd 7 (.rd 8 (.rd 9 (.rd 10 .done))))))))))) ?_;refine U 70 ?_;refine aJ (gP rfl rfl rfl (by omega) (((x / 256:Nat):Int)) (G9 _ rfl)) ?_;refine aJ (lB rfl rfl rfl underlying9 (show _=((x / 256:Nat):Int) by omega) (by exact bhx (show x / 256<256 by omega) (by kernel_rfl))) ?_;refine aJ (cC rfl rfl underlying5 underlying220 (((dw (x / 256):Nat):Int)) (pb (T:=Hk) (by kernel_rfl) (zR O) rfl)) ?_;refine U 70 ?_;refine aJ (mQ rfl rfl rfl (((x % 256:Nat):Int)) (V1 hx)) ?_;refine aJ (lB rfl rfl rfl underlying9 (show _=((x % 256:Nat):Int) by omega) (by exact bhx (show x % 256<256 by omega) (by kernel_rfl))) ?_;refine aJ (cC rfl rfl underlying5 underlying220 (((dw (x % 256):Nat):Int)) (pb (T:=Hk) (by kernel_rfl) (zR O) rfl)) ?_;refine aJ (jh rfl rfl rfl (by omega) (((dw (x % 256) % 256 * 256:Nat):Int)) (wu _ rfl)) ?_;refine aJ (xA rfl rfl rfl (((dw (x / 256)+256 * (dw (x % 256) % 256):Nat):Int)) (TF h1 O)) ?_;refine U 8000700088070 ?_;refine cI ?_
 unfold pr;omega
theorem NX {gs:List Nat} (m:Nat) (hm:m<65536):cd gs prog 200 [.c (.int .u64 (m:Nat))] (.c (.int .i64 (bl m:Nat))):=by
 refine ae 25 func200 fun _ _ _ _=>?_;refine U 52167516 ?_;refine an (fun h338=>?_) fun h338=>?_
 ·exfalso;omega
 refine U 52167810 ?_;refine an (fun h342=>?_) fun h342=>?_
 ·exfalso;omega
 refine U 52167810 ?_;refine aaa (fun h346=>?_) fun h346=>?_
 ·refine U 810 ?_
  obtain ⟨q,hq,hq2⟩:∃ q,q=(if 256≤m then m / 256 else m)∧q<256:=⟨_,rfl,by split<;>omega⟩
  refine jE (bj 0 (.c (.int .u64 (q:Nat))) (cI (by rw [hq];rw [jK]))) ?_
  have hl:=(qC hq2).2.1
  refine U 116 ?_;refine jq (cC rfl rfl underlying259 underlying5 (((q:Nat):Int)) ((by rw [IntKind.wrap_u8];omega))) ?_;refine jq (lB rfl rfl rfl underlying9 (show _=((q:Nat):Int) by omega) (by exact bhx hq2 (by kernel_rfl))) ?_;refine jq (cC rfl rfl underlying5 underlying3 (((iy q:Nat):Int)) (pb (T:=HG) (by kernel_rfl) (Aw hq2) rfl)) ?_;refine U 80007000519 ?_;refine cI ?_
  unfold bl
  (rw [jK] at hq ⊢;subst hq;omega)
 refine U 16 ?_;refine jq (gP rfl rfl rfl (by omega) (((m / 256:Nat):Int)) (QJ _ rfl)) ?_;refine U 8519120051 ?_
 obtain ⟨q,hq,hq2⟩:∃ q,q=(if 256≤m then m / 256 else m)∧q<256:=⟨_,rfl,by split<;>omega⟩
 refine jE (bj 0 (.c (.int .u64 (q:Nat))) (cI (by rw [hq];rw [jP]))) ?_
 have hl:=(qC hq2).2.1
 refine U 116 ?_;refine jq (cC rfl rfl underlying259 underlying5 (((q:Nat):Int)) ((by rw [IntKind.wrap_u8];omega))) ?_;refine jq (lB rfl rfl rfl underlying9 (show _=((q:Nat):Int) by omega) (by exact bhx hq2 (by kernel_rfl))) ?_;refine jq (cC rfl rfl underlying5 underlying3 (((iy q:Nat):Int)) (pb (T:=HG) (by kernel_rfl) (Aw hq2) rfl)) ?_;refine U 80007000519 ?_;refine cI ?_
 unfold bl
 (rw [jP] at hq ⊢;subst hq;omega)
theorem S6 {gs:List Nat} (m:Nat) (hm:m<65536):cd gs prog 159 [.c (.int .u64 (m:Nat))] (.c (.int .i64 (bl m:Nat))):=by
 refine ae 8 func159 fun _ _ _ _=>?_;refine U 168103007516 ?_
 refine aq (ak (NX m hm) ?_)
 refine U 51 ?_
 refine jR (eN (hv:=Z))
theorem NB {gs:List Nat} (c:UInt8):cd gs prog 173 [.c (.int .u8 (c.toNat:Nat))] (.c (.int .i64 (re c.toNat:Nat))):=by
 have hc:c.toNat<256:=c.toNat_lt
 refine ae 6 func173 fun _ _ _ _=>?_;refine U 16516 ?_;refine jq (lB rfl rfl rfl underlying9 (show _=((c.toNat:Nat):Int) by omega) (by exact bhx hc (by kernel_rfl))) ?_;refine jq (cC rfl rfl underlying5 underlying3 (((re c.toNat:Nat):Int)) (pb (T:=ND) (by kernel_rfl) (JY hc) rfl)) ?_;refine U 51 ?_
 refine jR (eN (hv:=Z))
theorem KI (z:Int) (hz:z<0∨32767<z):cd gs prog 101 [.c (.int .i64 z)] (.tup 2 (fl [bc [],.err 1])):=by
 refine ae 41 func101 fun _ _ _ _=>?_;refine U 121675116 ?_;refine aH 10 (fun g76=>?_) fun g76=>?_
 ·refine U 79000510000000044 ?_;refine dQ (.rd 0 (.rd 1 (.rd 2 .done))) ?_;refine aJ (cK 0) ?_;refine U 8807070 ?_
  refine jR (l9 (eN (hv:=cT cN Z)))
 refine U 550021 ?_;refine aaa (fun h76=>?_) fun h76=>?_
 ·exfalso;simp at h76;omega
 refine ia ?_;refine dQ (.rd 0 (.rd 1 (.rd 2 .done))) ?_;refine aJ (cK 0) ?_;refine U 8807070 ?_
 refine jR (l9 (eN (hv:=cT cN Z)))
theorem OY {gs:List Nat} (m:Nat) (hm:m<32768):cd gs prog 101 [.c (.int .i64 (m:Nat))] (.tup 2 (fl [bc (cn m),.err 0])):=by
 have hb:=(tX (m:=m) O).2
 refine ae 41 func101 fun _ _ _ _=>?_;refine U 121675116 ?_;refine aH 10 (fun g76=>?_) fun g76=>?_
 ·exfalso;omega
 refine U 550021 ?_;refine an (fun h76=>?_) fun h76=>?_
 ·exfalso;omega
 refine U 16810 ?_;refine jq (wg .i64 .u16) ?_
 refine aq (ak (pq m O) ?_)
 refine U 1651 ?_;refine jq (wg .i64 .u64) ?_
 refine aq (ak (S6 m O) ?_)
 refine U 8000001000000910000001651 ?_
 refine aq (aM 1 1 da fun p1=>?_)
 refine U 20516751 ?_;refine jE (dt 0 rfl (ZA _) (fun _=>rfl) (AR (l2:=[UInt8.ofNat ((8-bl m % 8) % 8)]) (.cons (cI (by rw [el O];omega)) .nil))) ?_;refine ar (α:=Nat×Option Nat) [4,6,7,27,28,29,30,31,32,33,34,35,36,37,38,39] (fun (j,g)=>[(4,.c (.int .u16 (rn m j:Nat))),(6,.os 0 g 0 (xH m j).length 1),(7,.c (.int .i64 ((8 * j:Nat):Int)))]) (fun (j,g)=>[(g,.blk (xH m j).length (aV (xH m j)))]) (fun j=>j.1≤(bl m+7) / 8) (fun j=>3-j.1) ((0,p1)) ?_ (fun _=>rfl) ?_ ?_ ?_
 exact ZL _
 exact .cons Z (.cons Z (.cons Z .nil))
 exact .same .nil
 ·rintro ⟨j,g'⟩ (hj:j≤(bl m+7) / 8)
  have ht:=LU (m:=m) O j
  have hol:=Nk m j
  refine U 521167 ?_;refine aaa (fun h83=>?_) fun h83=>?_
  ·refine U 5111684000200020006000 ?_;refine jE (freeze 0 rfl) ?_;refine jE (er 2 (xH m j) rfl rfl (by rfl) rfl) ?_;refine U 80007000 ?_
   have e:j=(bl m+7) / 8:=by omega
   refine cT (aa.bs ?_) aa.nil
   rw [e];exact Nl O
  refine U 116207810 ?_;refine jq (gP rfl rfl rfl (by omega) (((rn m j / 256:Nat):Int)) (G9 _ rfl)) ?_;refine jq (wg .u16 .u8) ?_
  refine aq (aM 1 1 da fun p2=>?_)
  refine aw (ay (l2:=[UInt8.ofNat (rn m j / 256)]) rfl rfl rfl (ZA _) (fun _ _=>Z) (aI rfl (.inl rfl) jD) rfl (bz (.cons (cI ((by rw [el O]))) .nil)) underlying23 dV fR da jt rfl (by (simp;omega)) (cp rfl rfl) rfl rfl (fun p3=>?_))
  refine U 120051 ?_;refine jq (jh rfl rfl rfl (by omega) (((rn m j % 256 * 256:Nat):Int)) (wu _ rfl)) ?_;refine U 85191200840051 ?_
  refine am ((j+1,p3)) ?_ ?_ (h5:=?_) (h7:=?_)
  show j+1≤(bl m+7) / 8;omega
  show 3-(j+1)<3-j;omega
  exact .cons Z (.cons Z (.cons (cI O) .nil))
  exact .same .nil
theorem LW (b:I):cd gs prog 125 [bc b] (.tup 2 (fl [.c (.int .i64 (bW b).1),.err (bW b).2])):=by
 have h8:(b.getD 0 0).toNat<256:=avx _
 have h81:(b.getD 1 0).toNat<256:=avx _
 have h82:(b.getD 2 0).toNat<256:=avx _
 refine ae 72 func125 fun _ _ _ _=>?_;refine U 5231675116 ?_;refine an (fun h92=>?_) fun h92=>?_
 ·refine ia ?_;refine dQ (.rd 0 (.rd 1 (.rd 2 .done))) ?_;refine aJ (cK 1) ?_;refine U 8000300070008807070 ?_
  have e0:b.length=0:=by omega
  unfold bW;rw [Zz e0]
  exact Z
 refine U 7810 ?_;refine dQ (.rd 0 (.rd 1 (.rd 2 (.rd 3 (.rd 4 (.rd 5 (.rd 6 (.rd 7 .done)))))))) ?_;refine U 70 ?_;refine aJ (dP (i:=0)) ?_;refine aJ kF ?_;refine aJ (r9 .i64) ?_;refine U 70 ?_;refine aJ (o0 (hz1:=(show (1:Int)=((1:Nat):Int) from rfl))) ?_;refine U 2078807070 ?_
 obtain ⟨x,hx⟩:∃ x,x=(b.getD 0 0).toNat:=⟨_,rfl⟩
 have e0:b.length≠0:=by omega
 refine jE (bj 4 (.c (.int .i64 (x:Nat))) (cI (by rw [hx]))) ?_
 have e1:∀ j,(b.drop 1).getD j 0=b.getD (j+1) 0:=fun j=>by simp [List.getD]
 have e2:(b.drop 1).length=b.length-1:=by simp
 refine U 1216 ?_;refine aH 21 (fun g97=>?_) fun g97=>?_
 ·refine U 790005110000000044444441100000000444 ?_;refine dQ (.rd 0 (.rd 1 (.rd 2 .done))) ?_;refine U 800030005000700088070704000000 ?_
  have hM:bW b=(0,4):=by
   unfold bW;rw [Zy e0,jP]
  rw [hM];exact Z
 refine U 1500231 ?_;refine aH 26 (fun g97_2=>?_) fun g97_2=>?_
 ·refine U 79000511000000004444444 ?_;refine dQ (.rd 0 (.rd 1 (.rd 2 .done))) ?_;refine U 800030005000700088070704000000 ?_
  have hM:bW b=(0,4):=by
   unfold bW;rw [Zy e0,jP]
  rw [hM];exact Z
 refine U 1231 ?_;refine aH 30 (fun g97_3=>?_) fun g97_3=>?_
 rotate_left
 ·refine U 5123163005150050044 ?_;refine an (fun h99=>?_) fun h99=>?_
  ·refine U 80003000500070005116 ?_
   have hM:bW b=(0,0):=by
    unfold bW;rw [Zy e0,jK,jP]
   rw [hM];exact cT Z aa.nil
  have e3:(b.drop 1).getD (b.length-2) 0=b.getD (b.length-1) 0:=by rw [e1];congr 1;omega
  refine U 93116 ?_;refine jq (dP (i:=(b.length-2)) (hz:=by omega)) ?_;refine U 60 ?_
  refine aq (ak (NB ((b.drop 1).getD (b.length-2) 0)) ?_)
  refine U 5121 ?_;refine an (fun h101=>?_) fun h101=>?_
  ·refine ia ?_;refine dQ (.rd 0 (.rd 1 (.rd 2 .done))) ?_;refine U 800030005000700088070704000000 ?_
   rw [e3] at h101
   have hM:bW b=(0,4):=by
    unfold bW;rw [Zy e0,jK,jK,jP]
   rw [hM];exact Z
  refine U 840010 ?_
  rw [e3] at h101
  refine U 60200000016 ?_;refine jq (r9 .u16) ?_;refine jq (jh rfl rfl rfl (by omega) ((((b.getD 1 0).toNat % 256 * 256:Nat):Int)) ((by rw [e1];exact wu _ rfl))) ?_;refine U 52316751 ?_;refine aaa (fun h105=>?_) fun h105=>?_
  ·refine U 810 ?_
   have hT:=nJ (b:=b) O
   refine jE (bj 6 (.c (.int .u16 (fQ b:Nat))) (cI (by unfold fQ;(rw [jK];omega)))) ?_;refine U 16 ?_
   refine aq (ak (pq (fQ b) hT.1) ?_)
   refine jq (cC rfl rfl underlying220 underlying3 (((jC b:Nat):Int)) ((by rw [hT.2];exact cU (k:=.i64) (by show _∧_;have:=pp hT.1;rw [hT.2] at this;omega)))) ?_;refine U 751 ?_
   have hM:bW b=if 32768≤jC b then (0,1) else (jC b,0):=by
    unfold bW
    rw [Zy e0,jK,jK,jK]
    rfl
   refine U 5216 ?_;refine an (fun h109=>?_) fun h109=>?_
   ·refine ia ?_;refine dQ (.rd 0 (.rd 1 (.rd 2 .done))) ?_;refine aJ (cK 0) ?_;refine U 8000300070008807070 ?_
    rw [hM,jP];exact Z
   refine U 8000700051116810 ?_
   have e1:(bW b).1=jC b:=by rw [hM,jK]
   have e2:(bW b).2=0:=by rw [hM,jK]
   exact cT (cI (by rw [e1])) (aa.nilE e2)
  refine U 11200 ?_;refine jq (dP (i:=1)) ?_;refine U 60 ?_;refine jq (r9 .u16) ?_;refine jq (xA rfl rfl rfl ((((b.getD 2 0).toNat+256 * ((b.getD 1 0).toNat % 256):Nat):Int)) ((by rw [e1];exact TE h82 O))) ?_;refine U 851 ?_
  have hT:=nJ (b:=b) O
  refine jE (bj 6 (.c (.int .u16 (fQ b:Nat))) (cI (by unfold fQ;(rw [jP];omega)))) ?_;refine U 16 ?_
  refine aq (ak (pq (fQ b) hT.1) ?_)
  refine jq (cC rfl rfl underlying220 underlying3 (((jC b:Nat):Int)) ((by rw [hT.2];exact cU (k:=.i64) (by show _∧_;have:=pp hT.1;rw [hT.2] at this;omega)))) ?_;refine U 751 ?_
  have hM:bW b=if 32768≤jC b then (0,1) else (jC b,0):=by
   unfold bW
   rw [Zy e0,jK,jK,jK]
   rfl
  refine U 5216 ?_;refine an (fun h109=>?_) fun h109=>?_
  ·refine ia ?_;refine dQ (.rd 0 (.rd 1 (.rd 2 .done))) ?_;refine aJ (cK 0) ?_;refine U 8000300070008807070 ?_
   rw [hM,jP];exact Z
  refine U 8000700051116810 ?_
  have e1:(bW b).1=jC b:=by rw [hM,jK]
  have e2:(bW b).2=0:=by rw [hM,jK]
  exact cT (cI (by rw [e1])) (aa.nilE e2)
 refine U 5150010000000021 ?_;refine an (fun h97=>?_) fun h97=>?_
 ·refine ia ?_;refine dQ (.rd 0 (.rd 1 (.rd 2 .done))) ?_;refine U 800030005000700088070704000000 ?_
  have hM:bW b=(0,4):=by
   unfold bW;rw [Zy e0,jP]
  rw [hM];exact Z
 refine U 512316 ?_;refine an (fun h99=>?_) fun h99=>?_
 ·refine U 80003000500070005116 ?_
  have hM:bW b=(0,0):=by
   unfold bW;rw [Zy e0,jK,jP]
  rw [hM];exact cT Z aa.nil
 have e3:(b.drop 1).getD (b.length-2) 0=b.getD (b.length-1) 0:=by rw [e1];congr 1;omega
 refine U 93116 ?_;refine jq (dP (i:=(b.length-2)) (hz:=by omega)) ?_;refine U 60 ?_
 refine aq (ak (NB ((b.drop 1).getD (b.length-2) 0)) ?_)
 refine U 5121 ?_;refine an (fun h101=>?_) fun h101=>?_
 ·refine ia ?_;refine dQ (.rd 0 (.rd 1 (.rd 2 .done))) ?_;refine U 800030005000700088070704000000 ?_
  rw [e3] at h101
  have hM:bW b=(0,4):=by
   unfold bW;rw [Zy e0,jK,jK,jP]
  rw [hM];exact Z
 refine U 840010 ?_
 rw [e3] at h101
 refine U 60200000016 ?_;refine jq (r9 .u16) ?_;refine jq (jh rfl rfl rfl (by omega) ((((b.getD 1 0).toNat % 256 * 256:Nat):Int)) ((by rw [e1];exact wu _ rfl))) ?_;refine U 52316751 ?_;refine aaa (fun h105=>?_) fun h105=>?_
 ·refine U 810 ?_
  have hT:=nJ (b:=b) O
  refine jE (bj 6 (.c (.int .u16 (fQ b:Nat))) (cI (by unfold fQ;(rw [jP];omega)))) ?_;refine U 16 ?_
  refine aq (ak (pq (fQ b) hT.1) ?_)
  refine jq (cC rfl rfl underlying220 underlying3 (((jC b:Nat):Int)) ((by rw [hT.2];exact cU (k:=.i64) (by show _∧_;have:=pp hT.1;rw [hT.2] at this;omega)))) ?_;refine U 751 ?_
  have hM:bW b=if 32768≤jC b then (0,1) else (jC b,0):=by
   unfold bW
   rw [Zy e0,jK,jK,jK]
   rfl
  refine U 5216 ?_;refine an (fun h109=>?_) fun h109=>?_
  ·refine ia ?_;refine dQ (.rd 0 (.rd 1 (.rd 2 .done))) ?_;refine aJ (cK 0) ?_;refine U 8000300070008807070 ?_
   rw [hM,jP];exact Z
  refine U 8000700051116810 ?_
  have e1:(bW b).1=jC b:=by rw [hM,jK]
  have e2:(bW b).2=0:=by rw [hM,jK]
  exact cT (cI (by rw [e1])) (aa.nilE e2)
 refine U 11200 ?_;refine jq (dP (i:=1)) ?_;refine U 60 ?_;refine jq (r9 .u16) ?_;refine jq (xA rfl rfl rfl ((((b.getD 2 0).toNat+256 * ((b.getD 1 0).toNat % 256):Nat):Int)) ((by rw [e1];exact TE h82 O))) ?_;refine U 851 ?_
 have hT:=nJ (b:=b) O
 refine jE (bj 6 (.c (.int .u16 (fQ b:Nat))) (cI (by unfold fQ;(rw [jP];omega)))) ?_;refine U 16 ?_
 refine aq (ak (pq (fQ b) hT.1) ?_)
 refine jq (cC rfl rfl underlying220 underlying3 (((jC b:Nat):Int)) ((by rw [hT.2];exact cU (k:=.i64) (by show _∧_;have:=pp hT.1;rw [hT.2] at this;omega)))) ?_;refine U 751 ?_
 have hM:bW b=if 32768≤jC b then (0,1) else (jC b,0):=by
  unfold bW
  rw [Zy e0,jK,jK,jK]
  rfl
 refine U 5216 ?_;refine an (fun h109=>?_) fun h109=>?_
 ·refine ia ?_;refine dQ (.rd 0 (.rd 1 (.rd 2 .done))) ?_;refine aJ (cK 0) ?_;refine U 8000300070008807070 ?_
  rw [hM,jP];exact Z
 refine U 8000700051116810 ?_
 have e1:(bW b).1=jC b:=by rw [hM,jK]
 have e2:(bW b).2=0:=by rw [hM,jK]
 exact cT (cI (by rw [e1])) (aa.nilE e2)
def rF (M n i:Nat) (j:Nat):CV:=.c (.int .u8 ((gF M n i j:Nat):Int))
theorem Jo {gs:List Nat} (m:Nat) (hm:m<32768):cd gs prog 183 [.c (.int .i64 (m:Nat))] (bc (cn m)):=by
 have hb:=(tX (m:=m) O).2
 have hfl:=nv (m:=m) O
 refine ae 57 func183 fun _ _ _ _=>?_;refine U 205167516516 ?_;refine ar (α:=Nat) [3,4,7,8,9,10,11,12,13,14,15,16,17,18] (fun i=>[(3,.c (.int .i64 (bp m i:Nat))),(4,.c (.int .i64 (i:Nat)))]) (fun _=>[]) (fun i=>i≤15) (fun i=>15-i) (0) ?_ (fun _=>rfl) ?_ ?_ ?_
 exact ZL _
 exact .cons Z (.cons Z .nil)
 ·(repeat (exact aD.nil))
 ·rintro i (hi:i≤15)
  have hbp:=(PB m i).2
  obtain ⟨q,hq⟩:∃ q,q=m / 2 ^ i:=⟨_,rfl⟩
  refine U 52167 ?_;refine an (fun h70=>?_) fun h70=>?_
  ·refine U 116207810 ?_;refine jq (wg .i64 .u64) ?_;refine jq (gP rfl rfl rfl (by omega) (((q:Nat):Int)) ((by rw [hq];exact C6 i rfl (by show i≤64;omega)))) ?_;refine U 521000000 ?_;refine aaa (fun h71=>?_) fun h71=>?_
   ·refine U 85191200840010 ?_
    refine am (i+1) ?_ ?_ (h5:=?_)
    show i+1≤15;omega
    omega
    exact .cons (cI (by show _=((if m / 2 ^ i % 2=1 then i+1 else bp m i:Nat):Int);rw [← hq];(rw [jK]))) (.cons (cI O) .nil)
   refine U 8519120084005191200 ?_
   refine am (i+1) ?_ ?_ (h5:=?_)
   show i+1≤15;omega
   omega
   exact .cons (cI (by show _=((if m / 2 ^ i % 2=1 then i+1 else bp m i:Nat):Int);rw [← hq];(rw [jP];omega))) (.cons (cI O) .nil)
  refine U 84000200020006000 ?_
  have e15:i=15:=by omega
  refine jE (bj 3 (.c (.int .i64 (bl m:Nat))) (cI (by rw [e15,PC hm]))) ?_;refine U 9600000916 ?_
  refine aq (yu (F:=(fun _=>.c (.int .u8 0))) rfl rfl rfl (show _=(((cn m).length:Nat):Int) by omega) (show _=(((cn m).length:Nat):Int) by omega) (by omega) underlying23 fR da jt (by omega) (by omega) (fun j hj=>by show aa (.c ((#[Value.int .u8 0])[j % 1]!)) _;rw [clx];exact Z) rfl rfl (fun p1=>?_))
  refine U 9199311651 ?_;refine jq (cC rfl rfl underlying3 underlying5 ((((8-bl m % 8) % 8:Nat):Int)) ((by rw [IntKind.wrap_u8];omega))) ?_;refine U 2000000 ?_
  refine aw (bg 1 (rF m (bl m) 0) ?_ ?_)
  ·exact (fun j hj=>aa.of_eq (by refine (kq _ 0 (.c (.int .u8 (((8-bl m % 8) % 8:Nat):Int))) j).trans ?_;unfold rF;split<;>rename_i e<;>first|(rw [e];rfl)|(rw [Sz e];rfl)))
  refine U 2051675 ?_;refine ar (α:=Nat) [6,33,34,35,36,37,38,39,40,41,42,43,44,45,46,47,48,49,50,51,52,53,54,55] (fun i=>[(6,.c (.int .i64 (i:Nat)))]) (fun i=>[(p1,.blk ((cn m).length * 1) (rF m (bl m) i))]) (fun i=>i≤bl m) (fun i=>bl m-i) (0) ?_ (fun _=>rfl) ?_ ?_ ?_
  exact ZL _
  exact .cons Z .nil
  exact .same .nil
  ·rintro i' (hi':i'≤bl m)
   obtain ⟨q',hq'⟩:∃ q,q=m / 2 ^ i':=⟨_,rfl⟩
   refine U 521167 ?_;refine aaa (fun h77=>?_) fun h77=>?_
   ·refine U 84000200020006000 ?_
    have e:i'=bl m:=by omega
    subst e
    refine jE (dt 0 (m:=(cn m).length) (F:=aV (cn m)) rfl O (fun _=>by omega) (fun j hj=>cI (by rw [VE O O]))) ?_;refine U 5116 ?_;refine jE (freeze 0 rfl) ?_;refine jE (er 2 (cn m) rfl rfl (by rfl) rfl) ?_
    refine jR (eN (hv:=Z))
   refine U 116207810 ?_;refine jq (wg .i64 .u64) ?_;refine jq (gP rfl rfl rfl (by omega) (((q':Nat):Int)) ((by rw [hq'];exact C6 i' rfl (by show i'≤64;omega)))) ?_;refine U 521000000 ?_;refine aaa (fun h78=>?_) fun h78=>?_
   ·refine U 85191200840010 ?_
    refine am (i'+1) ?_ ?_ (h5:=?_) (h7:=?_)
    show i'+1≤bl m;omega
    omega
    exact .cons (cI O) .nil
    exact .blk rfl (fun j hj=>cI (by rw [VD O])) .nil
   have hm15:i'<15:=by have:=(PB m 15).2;rw [PC hm] at this;omega
   have hb1:m / 2 ^ i' % 2=1:=by omega
   have hgo:=VC (n:=bl m) hb1 hm15 hm
   obtain ⟨P,hP⟩:∃ P,P=gF m (bl m) i' (1+i' / 8)+2 ^ (7-i' % 8):=⟨_,rfl⟩
   rw [← hP] at hgo
   refine U 960000011200 ?_;refine jq (dP (i:=(1+i' / 8)) (hz:=by omega)) ?_;refine U 1000000150 ?_;refine jq (wg .i64 .u64) ?_;refine jq (gP rfl rfl rfl (by omega) (((2 ^ (7-i' % 8):Nat):Int)) (QK (i' % 8) O O)) ?_;refine jq (BN rfl rfl rfl (((P:Nat):Int)) ((by rw [IntKind.wrap_u8,← Int.natCast_add,← hP];omega))) ?_;refine jq (dP (i:=(1+i' / 8)) (hz:=by omega)) ?_
   refine aw (bg 1 (rF m (bl m) (i'+1)) ?_ ?_)
   ·exact (fun j hj=>aa.of_eq (by refine (kq _ (1+i' / 8) (.c (.int .u8 ((P:Nat):Int))) j).trans ?_;unfold rF;rw [TX hb1 O O];split<;>rename_i e<;>first|(rw [hP,e])|rfl))
   refine U 8519120084005 ?_
   refine am (i'+1) ?_ ?_ (h5:=?_) (h7:=?_)
   show i'+1≤bl m;omega
   omega
   exact .cons (cI O) .nil
   exact .same .nil
end
section
variable {gs:List Nat} [dO gs]
end
def ol (c:UInt8):Bool:=(decide (97≤c.toNat) && decide (c.toNat≤122)) || (decide (48≤c.toNat) && decide (c.toNat≤57)) || decide (c.toNat=45)
def kT (l:I):Bool:=decide (l≠[]) && decide (l.length≤24) && decide (l.getD 0 0≠45) && decide (l.getD (l.length-1) 0≠45) && l.all ol
theorem N6 {l:I} (h:kT l=true):(58:UInt8) ∉ l∧(47:UInt8) ∉ l∧l≠[]:=by
 simp only [kT,ZE,ZJ,Z1] at h
 have ⟨⟨⟨⟨h1,_⟩,_⟩,_⟩,h2⟩:=h
 exact ⟨fun hm=>by have:=h2 _ hm;revert this;decide,fun hm=>by have:=h2 _ hm;revert this;decide,h1⟩
abbrev S3:=Int×I×I
def oL:Zx:=[[110,111,100,101],[119,111,114,107,108,111,97,100],[111,112,101,114,97,116,111,114],[98,111,111,116],[99,97]]
def fL (k:Int):I:=if k<1 then [] else oL.getD (k-1).toNat []
def bC (s:S3):Bool:=decide (1≤s.1) && decide (s.1≤5) && kT s.2.2 && (if s.1=2 then kT s.2.1 else decide (s.2.1=[]))
theorem qn (s:S3):bC s=true↔1≤s.1∧s.1≤5∧kT s.2.2=true∧(s.1=2→kT s.2.1=true)∧(s.1≠2→s.2.1=[]):=by
 simp only [bC,ZE,ZJ]
 by_cases h:s.1=2
 ·rw [Zz h]
  exact ⟨fun ⟨⟨⟨a,b⟩,c⟩,d⟩=>⟨a,b,c,fun _=>d,fun e=>absurd h e⟩,fun ⟨a,b,c,d,_⟩=>⟨⟨⟨a,b⟩,c⟩,d h⟩⟩
 ·rw [Zy h,ZJ]
  exact ⟨fun ⟨⟨⟨a,b⟩,c⟩,d⟩=>⟨a,b,c,fun e=>absurd e h,fun _=>d⟩,fun ⟨a,b,c,_,d⟩=>⟨⟨⟨a,b⟩,c⟩,d h⟩⟩
theorem kinds {k:Int} (h1:1≤k) (h5:k≤5):k=1∨k=2∨k=3∨k=4∨k=5:=by omega
theorem zE (k:Int):fL k=[]↔¬ (1≤k∧k≤5):=by
 constructor
 ·intro h hk
  rcases kinds hk.1 hk.2 with rfl|rfl|rfl|rfl|rfl<;>exact absurd h jD
 ·intro h
  unfold fL
  by_cases h1:k<1
  ·rw [Zz h1]
  ·rw [Zy h1,ZB,Z0 (by show 5≤_;omega)];rfl
theorem LH {k:Int} (h1:1≤k) (h5:k≤5):((oL.idxOf (fL k):Nat):Int)+1=k∧fL k ∈ oL:=by
 rcases kinds h1 h5 with rfl|rfl|rfl|rfl|rfl<;>decide
def uX (w:I):Int:=if w ∈ oL then (oL.idxOf w:Nat)+1 else 0
theorem So (w:I):0≤uX w∧uX w≤5:=by
 unfold uX
 split
 ·rename_i h
  have:=List.idxOf_lt_length_iff.2 h
  have e:oL.length=5:=rfl
  omega
 omega
def eD:S3:=(0,[],[])
def U8:I:=[49,46,51,46,57,57,57,57,46,49,46]
def oc:I:=U8++[49]
def rW:I:=U8++[50]
def n9:I:=U8++[51]
abbrev P2:=I×I
def aQ (s:S3):List P2:=if s.2.1=[] then [(oc,fL s.1),(n9,s.2.2)] else [(oc,fL s.1),(rW,s.2.1),(n9,s.2.2)]
def vq (s:S3) (p:P2):S3:=if p.1=oc then (uX p.2,s.2.1,s.2.2) else if p.1=rW then (s.1,p.2,s.2.2) else if p.1=n9 then (s.1,s.2.1,p.2) else s
def fk (l:List P2):S3:=l.foldl vq eD
theorem Eh {s:S3} (h:bC s=true):fk (aQ s)=s:=by
 obtain ⟨h1,h5,hn,h2,hs⟩:=(qn s).1 h
 have ⟨k,sp,nm⟩:=s
 have hk:uX (fL k)=k:=by
  have hi:=LH h1 h5
  unfold uX;rw [Zz hi.2];exact hi.1
 have ks:rW≠oc:=by decide
 have kn:n9≠oc:=by decide
 have sn:n9≠rW:=by decide
 unfold aQ
 by_cases he:sp=[]
 ·subst he
  simp [fk,vq,hk,kn,sn,eD]
 ·simp [fk,vq,hk,ks,kn,sn,eD,he]
def yU (l:List P2):S3×Nat:=if bC (fk l)=true∧aQ (fk l)=l then (fk l,0) else (eD,9)
theorem Hy (l:List P2) (s:S3):yU l=(s,0)↔bC s=true∧aQ s=l:=by
 constructor
 ·intro h
  unfold yU at h
  split at h
  ·rename_i h1
   obtain ⟨rfl,_⟩:=Prod.mk.inj h
   exact h1
  ·simp at h
 ·rintro ⟨h,rfl⟩
  unfold yU
  rw [Eh h,Zz ⟨h,rfl⟩]
theorem z7 {s:S3} (h:bC s=true):aQ s=if s.1=2 then [(oc,fL s.1),(rW,s.2.1),(n9,s.2.2)] else [(oc,fL s.1),(n9,s.2.2)]:=by
 obtain ⟨h1,h5,hn,h2,hs⟩:=(qn s).1 h
 unfold aQ
 by_cases hk2:s.1=2
 ·rw [Zz hk2,Zy (N6 (h2 hk2)).2.2]
 ·rw [Zy hk2,Zz (hs hk2)]
theorem KB (a b:I):cd gs prog 165 [ap a,ap b] (.c (.bool (Lib.hasPrefix a b))) :=
 pX fun al w St vals hs hv hr=>by
  rw [wW hv,show vals.getD 0 undef=.string ⟨a.toArray⟩ from hr 0,show vals.getD 1 undef=.string ⟨b.toArray⟩ from hr 1]
  exact (strings_HasPrefix _ _ w).mono (by rintro e w' ⟨rfl,rfl⟩;exact ⟨rfl,Below.refl _ _⟩)
theorem KA (a b:I) (h:a.length≤9223372036854775807):cd gs prog 166 [ap a,ap b] (.c (.bool (Lib.hasSuffix a b))) :=
 pX fun al w St vals hs hv hr=>by
  rw [wW hv,show vals.getD 0 undef=.string ⟨a.toArray⟩ from hr 0,show vals.getD 1 undef=.string ⟨b.toArray⟩ from hr 1]
  exact (strings_HasSuffix ⟨a.toArray⟩ _ w h).mono (by rintro e w' ⟨rfl,rfl⟩;exact ⟨rfl,Below.refl _ _⟩)
theorem wD (a:I) (c:UInt8):cd gs prog 93 [ap a,.c (.int .u8 (c.toNat:Nat))] (.c (.int .i64 (Lib.indexByte a c))) :=
 pX fun al w St vals hs hv hr=>by
  rw [wW hv,show vals.getD 0 undef=.string ⟨a.toArray⟩ from hr 0,show vals.getD 1 undef=.int .u8 (c.toNat:Nat) from hr 1]
  exact (strings_IndexByte _ _ w).mono (by rintro e w' ⟨rfl,rfl⟩;exact ⟨by simp,Below.refl _ _⟩)
def Vh:I:=[97,98,99,100,101,102,103,104,105,106,107,108,109,110,111,112,113,114,115,116,117,118,119,120,121,122,48,49,50,51,52,53,54,55,56,57]
theorem B4 (c:UInt8):(decide (c.toNat=45) || !decide (Lib.indexByte Vh c<0))=ol c:=by
 have key:∀ n:Fin 256,(decide ((UInt8.ofNat n.val).toNat=45) || !decide (Lib.indexByte Vh (UInt8.ofNat n.val)<0))=ol (UInt8.ofNat n.val):=by decide +kernel
 have:=key ⟨c.toNat,c.toNat_lt⟩
 simpa using this
theorem RA (l:I):Lib.hasPrefix l [45]=decide (l≠[]∧l.getD 0 0=45):=by
 cases l with
 | nil=>decide
 | cons a l =>
  by_cases h:a=45
  ·subst h;simp [Lib.hasPrefix]
  ·have:¬ (45:UInt8)=a:=fun e=>h e.symm
   simp [Lib.hasPrefix,List.isPrefixOf,h,this]
theorem QD (l:I):Lib.hasSuffix l [45]=decide (l≠[]∧l.getD (l.length-1) 0=45):=by
 by_cases h0:l=[]
 ·subst h0;decide
 ·obtain ⟨q,c,rfl⟩:∃ q c,l=q++[c]:=⟨l.dropLast,l.getLast h0,(a5x h0).symm⟩
  have e:(q++[c]).getD ((q++[c]).length-1) 0=c:=by simp [List.getD]
  rw [e]
  unfold Lib.hasSuffix
  rw [bmx,List.isSuffixOf_iff_suffix]
  simp only [ZJ]
  constructor
  ·rintro ⟨t,ht⟩
   exact ⟨h0,(by have:=ZV List.getLast? ht;simp at this;exact this.symm)⟩
  ·rintro ⟨_,rfl⟩;exact ⟨q,rfl⟩
theorem jc {l:I} {i:Nat} (hi:i<l.length) (p:UInt8→Bool):(l.take (i+1)).all p=((l.take i).all p && p (l.getD i 0)):=by
 rw [ZH hi,bTx]
 simp [List.getD,hi]
theorem yK {l:I} {i:Nat} (hi:i<l.length) (p:UInt8→Bool) (h:p (l.getD i 0)=false):l.all p=false:=by
 rw [List.all_eq_false]
 refine ⟨l[i],aAx hi,?_⟩
 have:l.getD i 0=l[i]:=by simp [List.getD,hi]
 rw [← this,h];exact Bool.noConfusion
theorem uO (l:I):kT l=(decide (l≠[]) && decide (l.length≤24) && !Lib.hasPrefix l [45] && !Lib.hasSuffix l [45] && l.all ol):=by
 unfold kT
 rw [RA,QD]
 by_cases h:l=[]
 ·simp [h]
 ·simp [h]
theorem nr {l:I}:kT l=true↔1≤l.length∧l.length≤24∧(l.getD 0 0).toNat≠45∧(l.getD (l.length-1) 0).toNat≠45∧l.all ol=true:=by
 have e:∀ c:UInt8,c≠45↔c.toNat≠45:=fun c=>not_congr (by rw [← akx];rfl)
 simp only [kT,ZE,ZJ,e,and_assoc]
 have:l≠[]↔1≤l.length:=aax.symm
 rw [this]
theorem xZ (l:I):cd gs prog 106 [ap l] (.c (.bool (kT l))):=by
 refine ae 37 func106 fun _ _ _ _=>?_;refine U 160000167516 ?_;refine aH 6 (fun g33=>?_) fun g33=>?_
 ·refine U 80003000700051690005100000000441100000000441100000000444 ?_;refine cB ?_
  rw [uO]
  (simp_all;done)
 refine U 15002400001 ?_;refine aH 11 (fun g33_2=>?_) fun g33_2=>?_
 ·refine U 8000300070005169000510000000044110000000044 ?_;refine cB ?_
  rw [uO]
  (simp_all;omega)
 refine U 1 ?_
 refine aq (ak (KB l [45]) ?_)
 refine U 1500 ?_;refine aH 15 (fun g33_3=>?_) fun g33_3=>?_
 ·refine U 8000300070005169000510000000044 ?_;refine cB ?_
  rw [uO]
  (simp_all;done)
 refine U 1 ?_
 refine aq (ak (KA l [45] O) ?_)
 refine U 5500 ?_;refine an (fun h33=>?_) fun h33=>?_
 ·refine U 800030007000516 ?_;refine cB ?_
  rw [uO]
  (simp_all;done)
 refine U 205140000167810 ?_;refine ar (α:=Nat) [2,3,21,22,23,24,25,26,27,28,29,30,31,32,33,34,35,36] (fun i=>[(21,.c (.int .i64 (i:Nat)))]) (fun _=>[]) (fun i=>i≤l.length∧(l.take i).all ol=true) (fun i=>l.length-i) (0) ?_ (fun _=>rfl) ?_ ?_ ?_
 exact ⟨ZL _,by simp⟩
 exact .cons Z .nil
 ·(repeat (exact aD.nil))
 ·rintro i ⟨hi,he⟩
  refine U 7526 ?_;refine aaa (fun h36=>?_) fun h36=>?_
  ·refine U 8000700051684000200020006000 ?_;refine cB ?_
   have e:l.take i=l:=ZY O
   rw [e] at he
   rw [uO,he]
   simp_all
   try omega
  refine U 75116207810 ?_;refine dQ (.rd 0 (.rd 1 (.rd 2 (.rd 3 (.rd 4 (.rd 5 (.rd 6 (.rd 7 (.rd 8 (.one 9 (.rd 10 (.rd 11 .done)))))))))))) ?_;refine U 7070 ?_;refine aJ B8 ?_;refine aJ (B8 (i:=0)) ?_;refine U 70800 ?_;refine ze 29 (fun g37=>?_) fun g37=>?_
  rotate_left
  ·refine U 600600600 ?_;refine Ga ?_;refine U 8519200840010300880300000600 ?_
   refine am (i+1) ?_ ?_ (h5:=?_)
   ·refine ⟨by omega,?_⟩
    rw [jc O,he,awx,← B4]
    simp_all
    try omega
   show l.length-(i+1)<l.length-i;omega
   exact .cons (cI O) .nil
  refine U 7070 ?_;refine aJ B8 ?_
  refine gp (ak (wD Vh (l.getD i 0)) ?_)
  refine U 8803000000800 ?_;refine an (fun h37=>?_) fun h37=>?_
  ·refine U 8000300050003000300050007000516 ?_;refine cB ?_
   rw [uO,yK (p:=ol) (show i<l.length by omega) (by rw [← B4];simp_all;try omega),aDx]
  refine U 8519200840010 ?_
  refine am (i+1) ?_ ?_ (h5:=?_)
  ·refine ⟨by omega,?_⟩
   rw [jc O,he,awx,← B4]
   simp_all
   try omega
  show l.length-(i+1)<l.length-i;omega
  exact .cons (cI O) .nil
theorem ut (l:I):cd gs prog 113 [ap l] (.c (.bool (kT l))):=by
 refine ae 53 func113 fun _ _ _ _=>?_;refine U 1240000167516 ?_;refine aH 8 (fun g41=>?_) fun g41=>?_
 ·refine U 8000300070005169000510000000044444411000000004441100000000444 ?_;refine cB ?_
  refine (ccx.2 fun h=>?_).symm
  have ⟨k1,k2,k3,k4,_⟩:=nr.1 h
  omega
 refine U 15002400001 ?_;refine aH 13 (fun g41_2=>?_) fun g41_2=>?_
 ·refine U 800030007000516900051000000004444441100000000444 ?_;refine cB ?_
  refine (ccx.2 fun h=>?_).symm
  have ⟨k1,k2,k3,k4,_⟩:=nr.1 h
  omega
 refine U 1 ?_;refine jq (B8 (i:=0)) ?_;refine U 15002 ?_;refine aH 18 (fun g41_3=>?_) fun g41_3=>?_
 ·refine U 80003000700051690005100000000444444 ?_;refine cB ?_
  refine (ccx.2 fun h=>?_).symm
  have ⟨k1,k2,k3,k4,_⟩:=nr.1 h
  omega
 refine U 94000011 ?_;refine jq (B8 (i:=(l.length-1)) (hz:=by omega)) ?_;refine U 55002 ?_;refine an (fun h41=>?_) fun h41=>?_
 ·refine U 800030007000516 ?_;refine cB ?_
  refine (ccx.2 fun h=>?_).symm
  have ⟨k1,k2,k3,k4,_⟩:=nr.1 h
  omega
 refine U 205167810 ?_;refine ar (α:=Nat) [2,3,4,26,27,28,29,30,31,32,33,34,35,36,37,38,39,40,41,42,43,44,45,46,47,48,49,50,51,52] (fun i=>[(3,.c (.int .i64 (i:Nat)))]) (fun _=>[]) (fun i=>i≤l.length∧(l.take i).all ol=true) (fun i=>l.length-i) (0) ?_ (fun _=>rfl) ?_ ?_ ?_
 exact ⟨ZL _,by simp⟩
 exact .cons Z .nil
 ·(repeat (exact aD.nil))
 ·rintro i ⟨hi,he⟩
  refine U 52400001167 ?_;refine aaa (fun h44=>?_) fun h44=>?_
  ·refine U 8000700051684000200020006000 ?_;refine cB ?_
   have e:l.take i=l:=ZY O
   rw [e] at he
   exact (nr.2 ⟨by omega,by omega,by omega,by omega,he⟩).symm
  refine U 5180000000116207810 ?_
  obtain ⟨x,hx⟩:∃ x,x=(l.getD i 0).toNat:=⟨_,rfl⟩
  refine jE (bj 4 (.c (.int .u8 (x:Nat))) (cI (by rw [hx]))) ?_;refine U 1216 ?_;refine aH 37 (fun g46=>?_) fun g46=>?_
  ·refine U 121110000000044 ?_;refine aH 44 (fun g46_2=>?_) fun g46_2=>?_
   ·refine U 510000000021110000000010000000044 ?_;refine an (fun h46=>?_) fun h46=>?_
    ·refine U 8000300050003000300050007000516 ?_;refine cB ?_
     unfold kT
     rw [yK (p:=ol) (show i<l.length by omega) (by unfold ol;rw [← hx];simp;omega),aDx]
    refine U 85191200840010 ?_
    refine am (i+1) ?_ ?_ (h5:=?_)
    ·refine ⟨by omega,?_⟩
     rw [jc O,he,awx]
     unfold ol
     rw [← hx]
     simp
     omega
    show l.length-(i+1)<l.length-i;omega
    exact .cons (cI O) .nil
   refine U 110000000050021 ?_;refine aH 49 (fun g46_3=>?_) fun g46_3=>?_
   rotate_left
   ·refine U 85191200840010300550044 ?_
    refine am (i+1) ?_ ?_ (h5:=?_)
    ·refine ⟨by omega,?_⟩
     rw [jc O,he,awx]
     unfold ol
     rw [← hx]
     simp
     omega
    show l.length-(i+1)<l.length-i;omega
    exact .cons (cI O) .nil
   refine U 510000000021 ?_;refine an (fun h46=>?_) fun h46=>?_
   ·refine U 8000300050003000300050007000516 ?_;refine cB ?_
    unfold kT
    rw [yK (p:=ol) (show i<l.length by omega) (by unfold ol;rw [← hx];simp;omega),aDx]
   refine U 85191200840010 ?_
   refine am (i+1) ?_ ?_ (h5:=?_)
   ·refine ⟨by omega,?_⟩
    rw [jc O,he,awx]
    unfold ol
    rw [← hx]
    simp
    omega
   show l.length-(i+1)<l.length-i;omega
   exact .cons (cI O) .nil
  refine U 150021 ?_;refine aH 41 (fun g46_2=>?_) fun g46_2=>?_
  rotate_left
  ·refine U 851912008400103005500441500444444 ?_
   refine am (i+1) ?_ ?_ (h5:=?_)
   ·refine ⟨by omega,?_⟩
    rw [jc O,he,awx]
    unfold ol
    rw [← hx]
    simp
    omega
   show l.length-(i+1)<l.length-i;omega
   exact .cons (cI O) .nil
  refine U 121 ?_;refine aH 44 (fun g46_3=>?_) fun g46_3=>?_
  ·refine U 510000000021110000000010000000044 ?_;refine an (fun h46=>?_) fun h46=>?_
   ·refine U 8000300050003000300050007000516 ?_;refine cB ?_
    unfold kT
    rw [yK (p:=ol) (show i<l.length by omega) (by unfold ol;rw [← hx];simp;omega),aDx]
   refine U 85191200840010 ?_
   refine am (i+1) ?_ ?_ (h5:=?_)
   ·refine ⟨by omega,?_⟩
    rw [jc O,he,awx]
    unfold ol
    rw [← hx]
    simp
    omega
   show l.length-(i+1)<l.length-i;omega
   exact .cons (cI O) .nil
  refine U 110000000050021 ?_;refine aH 49 (fun g46_4=>?_) fun g46_4=>?_
  rotate_left
  ·refine U 85191200840010300550044 ?_
   refine am (i+1) ?_ ?_ (h5:=?_)
   ·refine ⟨by omega,?_⟩
    rw [jc O,he,awx]
    unfold ol
    rw [← hx]
    simp
    omega
   show l.length-(i+1)<l.length-i;omega
   exact .cons (cI O) .nil
  refine U 510000000021 ?_;refine an (fun h46=>?_) fun h46=>?_
  ·refine U 8000300050003000300050007000516 ?_;refine cB ?_
   unfold kT
   rw [yK (p:=ol) (show i<l.length by omega) (by unfold ol;rw [← hx];simp;omega),aDx]
  refine U 85191200840010 ?_
  refine am (i+1) ?_ ?_ (h5:=?_)
  ·refine ⟨by omega,?_⟩
   rw [jc O,he,awx]
   unfold ol
   rw [← hx]
   simp
   omega
  show l.length-(i+1)<l.length-i;omega
  exact .cons (cI O) .nil
end Am
end Go.Proofs.YtghminnpfnkbjaaGreatDoor
