/- What the law leans on, part 6 -/
import Derived.Test.YtnijncmifjnifaaGreatDoorM5BundleSteps
set_option maxRecDepth 100000
set_option maxHeartbeats 8000000
set_option linter.unusedVariables false
open Go.Proofs.Tryz
namespace Go.Proofs.YtnijncmifjnifaaGreatDoor
namespace Am
open Go.RowKit
def k7 (c:UInt8):Bool:=(decide (97≤c.toNat) && decide (c.toNat≤122)) || (decide (48≤c.toNat) && decide (c.toNat≤57)) || decide (c.toNat=45)
def fS (l:V):Bool:=decide (l≠[]) && decide (l.length≤24) && decide (l.getD 0 0≠45) && decide (l.getD (l.length-1) 0≠45) && l.all k7
theorem wJ {l:V} (h:fS l=true):(58:UInt8) ∉ l∧(47:UInt8) ∉ l∧l≠[]:=by
 simp only [fS,FK,FT,F5] at h
 have ⟨⟨⟨⟨h1,_⟩,_⟩,_⟩,h2⟩:=h
 exact ⟨fun hm=>by have:=h2 _ hm;revert this;decide,fun hm=>by have:=h2 _ hm;revert this;decide,h1⟩
abbrev S3:=Int×V×V
def C6:FI:=[[110,111,100,101],[119,111,114,107,108,111,97,100],[111,112,101,114,97,116,111,114],[98,111,111,116],[99,97]]
def gq (k:Int):V:=if k<1 then [] else C6.getD (k-1).toNat []
def en (s:S3):Bool:=decide (1≤s.1) && decide (s.1≤5) && fS s.2.2 && (if s.1=2 then fS s.2.1 else decide (s.2.1=[]))
theorem nc (s:S3):en s=true↔1≤s.1∧s.1≤5∧fS s.2.2=true∧(s.1=2→fS s.2.1=true)∧(s.1≠2→s.2.1=[]):=by
 simp only [en,FK,FT]
 by_cases h:s.1=2
 ·rw [FO h]
  exact ⟨fun ⟨⟨⟨a,b⟩,c⟩,d⟩=>⟨a,b,c,fun _=>d,fun e=>absurd h e⟩,fun ⟨a,b,c,d,_⟩=>⟨⟨⟨a,b⟩,c⟩,d h⟩⟩
 ·rw [FN h,FT]
  exact ⟨fun ⟨⟨⟨a,b⟩,c⟩,d⟩=>⟨a,b,c,fun e=>absurd e h,fun _=>d⟩,fun ⟨a,b,c,_,d⟩=>⟨⟨⟨a,b⟩,c⟩,d h⟩⟩
theorem kinds {k:Int} (h1:1≤k) (h5:k≤5):k=1∨k=2∨k=3∨k=4∨k=5:=by omega
def fb:S3:=(0,[],[])
def BY:V:=[49,46,51,46,57,57,57,57,46,49,46]
def pP:V:=BY++[49]
def ul:V:=BY++[50]
def pO:V:=BY++[51]
abbrev P2:=V×V
def dX (s:S3):List P2:=if s.2.1=[] then [(pP,gq s.1),(pO,s.2.2)] else [(pP,gq s.1),(ul,s.2.1),(pO,s.2.2)]
theorem uj {s:S3} (h:en s=true):dX s=if s.1=2 then [(pP,gq s.1),(ul,s.2.1),(pO,s.2.2)] else [(pP,gq s.1),(pO,s.2.2)]:=by
 obtain ⟨h1,h5,hn,h2,hs⟩:=(nc s).1 h
 unfold dX
 by_cases hk2:s.1=2
 ·rw [FO hk2,FN (wJ (h2 hk2)).2.2]
 ·rw [FN hk2,FO (hs hk2)]
theorem uF {gs:List Nat} (a b:V):c4 gs prog 104 [bi a,bi b] (.c (.bool (Lib.hasPrefix a b))) :=
 mr fun al w St vals hs hv hr=>by
  rw [rZ hv,show vals.getD 0 undef=.string ⟨a.toArray⟩ from hr 0,show vals.getD 1 undef=.string ⟨b.toArray⟩ from hr 1]
  exact (strings_HasPrefix _ _ w).mono (by rintro e w' ⟨rfl,rfl⟩;exact ⟨rfl,Below.refl _ _⟩)
theorem uD {gs:List Nat} (a b:V) (h:a.length≤9223372036854775807):c4 gs prog 105 [bi a,bi b] (.c (.bool (Lib.hasSuffix a b))) :=
 mr fun al w St vals hs hv hr=>by
  rw [rZ hv,show vals.getD 0 undef=.string ⟨a.toArray⟩ from hr 0,show vals.getD 1 undef=.string ⟨b.toArray⟩ from hr 1]
  exact (strings_HasSuffix ⟨a.toArray⟩ _ w h).mono (by rintro e w' ⟨rfl,rfl⟩;exact ⟨rfl,Below.refl _ _⟩)
theorem sL {gs:List Nat} (a:V) (c:UInt8):c4 gs prog 106 [bi a,.c (.int .u8 (c.toNat:Nat))] (.c (.int .i64 (Lib.indexByte a c))) :=
 mr fun al w St vals hs hv hr=>by
  rw [rZ hv,show vals.getD 0 undef=.string ⟨a.toArray⟩ from hr 0,show vals.getD 1 undef=.int .u8 (c.toNat:Nat) from hr 1]
  exact (strings_IndexByte _ _ w).mono (by rintro e w' ⟨rfl,rfl⟩;exact ⟨by simp,Below.refl _ _⟩)
def B7:V:=[97,98,99,100,101,102,103,104,105,106,107,108,109,110,111,112,113,114,115,116,117,118,119,120,121,122,48,49,50,51,52,53,54,55,56,57]
theorem oP (c:UInt8):(decide (c.toNat=45) || !decide (Lib.indexByte B7 c<0))=k7 c:=by
 have key:∀ n:Fin 256,(decide ((UInt8.ofNat n.val).toNat=45) || !decide (Lib.indexByte B7 (UInt8.ofNat n.val)<0))=k7 (UInt8.ofNat n.val):=by decide +kernel
 have:=key ⟨c.toNat,c.toNat_lt⟩
 simpa using this
theorem y5 (l:V):Lib.hasPrefix l [45]=decide (l≠[]∧l.getD 0 0=45):=by
 cases l with
 | nil=>decide
 | cons a l =>
  by_cases h:a=45
  ·subst h;simp [Lib.hasPrefix]
  ·have:¬ (45:UInt8)=a:=fun e=>h e.symm
   simp [Lib.hasPrefix,List.isPrefixOf,h,this]
theorem yy (l:V):Lib.hasSuffix l [45]=decide (l≠[]∧l.getD (l.length-1) 0=45):=by
 by_cases h0:l=[]
 ·subst h0;decide
 ·obtain ⟨q,c,rfl⟩:∃ q c,l=q++[c]:=⟨l.dropLast,l.getLast h0,(List.dropLast_concat_getLast h0).symm⟩
  have e:(q++[c]).getD ((q++[c]).length-1) 0=c:=by simp [List.getD]
  rw [e]
  unfold Lib.hasSuffix
  rw [GT,List.isSuffixOf_iff_suffix]
  simp only [FT]
  constructor
  ·rintro ⟨t,ht⟩
   exact ⟨h0,(by have:=F7 List.getLast? ht;simp at this;exact this.symm)⟩
  ·rintro ⟨_,rfl⟩;exact ⟨q,rfl⟩
theorem c9 {l:V} {i:Nat} (hi:i<l.length) (p:UInt8→Bool):(l.take (i+1)).all p=((l.take i).all p && p (l.getD i 0)):=by
 rw [FV hi,List.all_append]
 simp [List.getD,hi]
theorem mo {l:V} {i:Nat} (hi:i<l.length) (p:UInt8→Bool) (h:p (l.getD i 0)=false):l.all p=false:=by
 rw [List.all_eq_false]
 refine ⟨l[i],Gv hi,?_⟩
 have:l.getD i 0=l[i]:=by simp [List.getD,hi]
 rw [← this,h];exact Bool.noConfusion
theorem kj (l:V):fS l=(decide (l≠[]) && decide (l.length≤24) && !Lib.hasPrefix l [45] && !Lib.hasSuffix l [45] && l.all k7):=by
 unfold fS
 rw [y5,yy]
 by_cases h:l=[]
 ·simp [h]
 ·simp [h]
theorem gF {l:V}:fS l=true↔1≤l.length∧l.length≤24∧(l.getD 0 0).toNat≠45∧(l.getD (l.length-1) 0).toNat≠45∧l.all k7=true:=by
 have e:∀ c:UInt8,c≠45↔c.toNat≠45:=fun c=>not_congr (by rw [← UInt8.toNat_inj];rfl)
 simp only [fS,FK,FT,e,and_assoc]
 have:l≠[]↔1≤l.length:=GB.symm
 rw [this]
theorem wI {gs:List Nat} (l:V):c4 gs prog 64 [bi l] (.c (.bool (fS l))):=by
 refine ag 37 func64 fun _ _ _ _=>?_;refine U 160000167516 ?_;refine aS 6 (fun g33=>?_) fun g33=>?_
 ·refine U 80003000700051690005100000000441100000000441100000000444 ?_;refine cB ?_
  rw [kj]
  (simp_all;done)
 refine U 15002400001 ?_;refine aS 11 (fun g33_2=>?_) fun g33_2=>?_
 ·refine U 8000300070005169000510000000044110000000044 ?_;refine cB ?_
  rw [kj]
  (simp_all;omega)
 refine U 1 ?_
 refine ay (aD (uF l [45]) ?_)
 refine U 1500 ?_;refine aS 15 (fun g33_3=>?_) fun g33_3=>?_
 ·refine U 8000300070005169000510000000044 ?_;refine cB ?_
  rw [kj]
  (simp_all;done)
 refine U 1 ?_
 refine ay (aD (uD l [45] O) ?_)
 refine U 5500 ?_;refine aX (fun h33=>?_) fun h33=>?_
 ·refine U 800030007000516 ?_;refine cB ?_
  rw [kj]
  (simp_all;done)
 refine U 205140000167810 ?_;refine aG (α:=Nat) [2,3,21,22,23,24,25,26,27,28,29,30,31,32,33,34,35,36] (fun i=>[(21,.c (.int .i64 (i:Nat)))]) (fun _=>[]) (fun i=>i≤l.length∧(l.take i).all k7=true) (fun i=>l.length-i) (0) ?_ (fun _=>rfl) ?_ ?_ ?_
 exact ⟨F4 _,by simp⟩
 exact .cons cZ .nil
 ·(repeat (exact ar.nil))
 ·rintro i ⟨hi,he⟩
  refine U 7526 ?_;refine aaa (fun h36=>?_) fun h36=>?_
  ·refine U 8000700051684000200020006000 ?_;refine cB ?_
   have e:l.take i=l:=Gl O
   rw [e] at he
   rw [kj,he]
   simp_all
   try omega
  refine U 75116207810 ?_;refine pZ (.rd 0 (.rd 1 (.rd 2 (.rd 3 (.rd 4 (.rd 5 (.rd 6 (.rd 7 (.rd 8 (.one 9 (.rd 10 (.rd 11 .done)))))))))))) ?_;refine U 7070 ?_;refine eF ux ?_;refine eF (ux (i:=0)) ?_;refine U 70800 ?_;refine oQ 29 (fun g37=>?_) fun g37=>?_
  rotate_left
  ·refine U 600600600 ?_;refine pY ?_;refine U 8519200840010300880300000600 ?_
   refine aH (i+1) ?_ ?_ (h5:=?_)
   ·refine ⟨by omega,?_⟩
    rw [c9 O,he,GJ,← oP]
    simp_all
    try omega
   show l.length-(i+1)<l.length-i;omega
   exact .cons (cI O) .nil
  refine U 7070 ?_;refine eF ux ?_
  refine mA (aD (sL B7 (l.getD i 0)) ?_)
  refine U 8803000000800 ?_;refine aX (fun h37=>?_) fun h37=>?_
  ·refine U 8000300050003000300050007000516 ?_;refine cB ?_
   rw [kj,mo (p:=k7) (show i<l.length by omega) (by rw [← oP];simp_all;try omega),Gj]
  refine U 8519200840010 ?_
  refine aH (i+1) ?_ ?_ (h5:=?_)
  ·refine ⟨by omega,?_⟩
   rw [c9 O,he,GJ,← oP]
   simp_all
   try omega
  show l.length-(i+1)<l.length-i;omega
  exact .cons (cI O) .nil
theorem tS {gs:List Nat} (l:V):c4 gs prog 66 [bi l] (.c (.bool (fS l))):=by
 refine ag 53 func66 fun _ _ _ _=>?_;refine U 1240000167516 ?_;refine aS 8 (fun g41=>?_) fun g41=>?_
 ·refine U 8000300070005169000510000000044444411000000004441100000000444 ?_;refine cB ?_
  refine (Hq.2 fun h=>?_).symm
  have ⟨k1,k2,k3,k4,_⟩:=gF.1 h
  omega
 refine U 15002400001 ?_;refine aS 13 (fun g41_2=>?_) fun g41_2=>?_
 ·refine U 800030007000516900051000000004444441100000000444 ?_;refine cB ?_
  refine (Hq.2 fun h=>?_).symm
  have ⟨k1,k2,k3,k4,_⟩:=gF.1 h
  omega
 refine U 1 ?_;refine jq (ux (i:=0)) ?_;refine U 15002 ?_;refine aS 18 (fun g41_3=>?_) fun g41_3=>?_
 ·refine U 80003000700051690005100000000444444 ?_;refine cB ?_
  refine (Hq.2 fun h=>?_).symm
  have ⟨k1,k2,k3,k4,_⟩:=gF.1 h
  omega
 refine U 94000011 ?_;refine jq (ux (i:=(l.length-1)) (hz:=by omega)) ?_;refine U 55002 ?_;refine aX (fun h41=>?_) fun h41=>?_
 ·refine U 800030007000516 ?_;refine cB ?_
  refine (Hq.2 fun h=>?_).symm
  have ⟨k1,k2,k3,k4,_⟩:=gF.1 h
  omega
 refine U 205167810 ?_;refine aG (α:=Nat) [2,3,4,26,27,28,29,30,31,32,33,34,35,36,37,38,39,40,41,42,43,44,45,46,47,48,49,50,51,52] (fun i=>[(3,.c (.int .i64 (i:Nat)))]) (fun _=>[]) (fun i=>i≤l.length∧(l.take i).all k7=true) (fun i=>l.length-i) (0) ?_ (fun _=>rfl) ?_ ?_ ?_
 exact ⟨F4 _,by simp⟩
 exact .cons cZ .nil
 ·(repeat (exact ar.nil))
 ·rintro i ⟨hi,he⟩
  refine U 52400001167 ?_;refine aaa (fun h44=>?_) fun h44=>?_
  ·refine U 8000700051684000200020006000 ?_;refine cB ?_
   have e:l.take i=l:=Gl O
   rw [e] at he
   exact (gF.2 ⟨by omega,by omega,by omega,by omega,he⟩).symm
  refine U 5180000000116207810 ?_
  obtain ⟨x,I⟩:∃ x,x=(l.getD i 0).toNat:=⟨_,rfl⟩
  refine jE (ck 4 (.c (.int .u8 (x:Nat))) (cI (by rw [I]))) ?_;refine U 1216 ?_;refine aS 37 (fun g46=>?_) fun g46=>?_
  ·refine U 121110000000044 ?_;refine aS 44 (fun g46_2=>?_) fun g46_2=>?_
   ·refine U 510000000021110000000010000000044 ?_;refine aX (fun h46=>?_) fun h46=>?_
    ·refine U 8000300050003000300050007000516 ?_;refine cB ?_
     unfold fS
     rw [mo (p:=k7) (show i<l.length by omega) (by unfold k7;rw [← I];simp;omega),Gj]
    refine U 85191200840010 ?_
    refine aH (i+1) ?_ ?_ (h5:=?_)
    ·refine ⟨by omega,?_⟩
     rw [c9 O,he,GJ]
     unfold k7
     rw [← I]
     simp
     omega
    show l.length-(i+1)<l.length-i;omega
    exact .cons (cI O) .nil
   refine U 110000000050021 ?_;refine aS 49 (fun g46_3=>?_) fun g46_3=>?_
   rotate_left
   ·refine U 85191200840010300550044 ?_
    refine aH (i+1) ?_ ?_ (h5:=?_)
    ·refine ⟨by omega,?_⟩
     rw [c9 O,he,GJ]
     unfold k7
     rw [← I]
     simp
     omega
    show l.length-(i+1)<l.length-i;omega
    exact .cons (cI O) .nil
   refine U 510000000021 ?_;refine aX (fun h46=>?_) fun h46=>?_
   ·refine U 8000300050003000300050007000516 ?_;refine cB ?_
    unfold fS
    rw [mo (p:=k7) (show i<l.length by omega) (by unfold k7;rw [← I];simp;omega),Gj]
   refine U 85191200840010 ?_
   refine aH (i+1) ?_ ?_ (h5:=?_)
   ·refine ⟨by omega,?_⟩
    rw [c9 O,he,GJ]
    unfold k7
    rw [← I]
    simp
    omega
   show l.length-(i+1)<l.length-i;omega
   exact .cons (cI O) .nil
  refine U 150021 ?_;refine aS 41 (fun g46_2=>?_) fun g46_2=>?_
  rotate_left
  ·refine U 851912008400103005500441500444444 ?_
   refine aH (i+1) ?_ ?_ (h5:=?_)
   ·refine ⟨by omega,?_⟩
    rw [c9 O,he,GJ]
    unfold k7
    rw [← I]
    simp
    omega
   show l.length-(i+1)<l.length-i;omega
   exact .cons (cI O) .nil
  refine U 121 ?_;refine aS 44 (fun g46_3=>?_) fun g46_3=>?_
  ·refine U 510000000021110000000010000000044 ?_;refine aX (fun h46=>?_) fun h46=>?_
   ·refine U 8000300050003000300050007000516 ?_;refine cB ?_
    unfold fS
    rw [mo (p:=k7) (show i<l.length by omega) (by unfold k7;rw [← I];simp;omega),Gj]
   refine U 85191200840010 ?_
   refine aH (i+1) ?_ ?_ (h5:=?_)
   ·refine ⟨by omega,?_⟩
    rw [c9 O,he,GJ]
    unfold k7
    rw [← I]
    simp
    omega
   show l.length-(i+1)<l.length-i;omega
   exact .cons (cI O) .nil
  refine U 110000000050021 ?_;refine aS 49 (fun g46_4=>?_) fun g46_4=>?_
  rotate_left
  ·refine U 85191200840010300550044 ?_
   refine aH (i+1) ?_ ?_ (h5:=?_)
   ·refine ⟨by omega,?_⟩
    rw [c9 O,he,GJ]
    unfold k7
    rw [← I]
    simp
    omega
   show l.length-(i+1)<l.length-i;omega
   exact .cons (cI O) .nil
  refine U 510000000021 ?_;refine aX (fun h46=>?_) fun h46=>?_
  ·refine U 8000300050003000300050007000516 ?_;refine cB ?_
   unfold fS
   rw [mo (p:=k7) (show i<l.length by omega) (by unfold k7;rw [← I];simp;omega),Gj]
  refine U 85191200840010 ?_
  refine aH (i+1) ?_ ?_ (h5:=?_)
  ·refine ⟨by omega,?_⟩
   rw [c9 O,he,GJ]
   unfold k7
   rw [← I]
   simp
   omega
  show l.length-(i+1)<l.length-i;omega
  exact .cons (cI O) .nil
section
variable {gs:List Nat} [du gs]
theorem xX [pf gs] (l:V) (most:Int) (hl:l.length≤1000000000):c4 gs prog 118 [bi l,.c (.int .i64 most)] (.err (ax l most)):=by
 refine ag 20 func118 fun _ _ _ _=>?_;refine U 516000016207516 ?_;refine aX (fun h47=>?_) fun h47=>?_
 ·refine dU ?_;refine jq (iv 1) ?_;refine U 51 ?_
  refine jR (sF (hZ (d4 (hv:=J.errN (by unfold ax;rw [FO (by simpa using h47)])))))
 refine U 51214000016 ?_;refine aX (fun h49=>?_) fun h49=>?_
 ·refine dU ?_;refine jq (iv 2) ?_;refine U 51 ?_
  refine jR (sF (hZ (d4 (hv:=J.errN (by unfold ax;rw [FN (by simpa using h47),FO h49])))))
 refine U 16 ?_
 refine ay (aD (rg l hl) ?_)
 refine U 5130 ?_;refine aX (fun h51=>?_) fun h51=>?_
 ·refine dU ?_;refine jq (iv 7) ?_;refine U 51 ?_
  refine jR (sF (hZ (d4 (hv:=J.errN (by unfold ax;rw [FN (by simpa using h47),FN h49,FO (by simpa using h51)])))))
 refine U 516840010 ?_
 refine jR (d4 (hv:=J.nilE (by unfold ax;rw [FN (by simpa using h47),FN h49,FN (by simpa using h51)])))
theorem ym [pf gs] (l:V) (most:Int) (hl:l.length≤1000000000):c4 gs prog 98 [bi l,.c (.int .i64 most)] (.tup 2 (fl [dL (if ax l most=0 then l else []),.err (ax l most)])):=by
 refine ag 15 func98 fun _ _ _ _=>?_;refine U 11675116 ?_
 refine ay (aD (xX l most hl) ?_)
 refine U 55000001651 ?_;refine aX (fun h59=>?_) fun h59=>?_
 ·refine U 51116 ?_
  refine jR (hZ (d4 (hv:=cT (J.nilS' (by rw [FN h59];rfl)) cZ)))
 refine U 16810 ?_
 refine ay (EL ?_)
 refine U 80007000511 ?_
 have h:ax l most=0:=by omega
 exact cT (J.bs (by rw [FO h])) (J.nilE h)
end
section
variable {gs:List Nat} [du gs]
open Go.RowKit Cal
theorem xG (n:Nat) (s:W8) (hs:pb s):AC gs prog 63 [eE n s] [.op 0 (some n) 0] (fun r H'=>r=.tup 2 (fl [dL (nN s),.err (eM s)])∧H'=[eE n s]):=by
 have hsd:=hs.d
 have bad:∀ {e},eM s=e→e≠0→nN s=[]:=fun h h0=>by unfold nN;rw [h,FN h0]
 refine ag 35 func63 fun _ _ _ _=>?_;refine U 2075116 ?_;refine dE 0 rfl fun go gd zs hzs=>?_;refine U 515000005010004016 ?_;refine aX (fun h140=>?_) fun h140=>?_
 ·refine oU ?_;refine pZ (.rd 0 (.rd 1 (.rd 2 (.rd 3 (.rd 4 (.rd 5 .done)))))) ?_;refine U 5000070 ?_;refine eF (cU 2 1 false) ?_;refine U 300050007000880707010000 ?_
  have e:eM s=s.k:=by unfold eM;rw [jP]
  exact ig (gd:=fun z:qN s.fr=>z.1.1) (E:=qL s) (.inl rfl) ⟨(n,go,gd,zs),hzs⟩ [0,1,2,3] T rfl (be rfl bn bn) (cT (by rw [bad e O];exact cN) (J.err e.symm))
 refine U 512350904016 ?_;refine aX (fun h142=>?_) fun h142=>?_
 ·refine oU ?_;refine pZ (.rd 0 (.rd 1 (.rd 2 .done))) ?_;refine eF (iv 23) ?_;refine U 3000500070008807070 ?_
  have e:eM s=24:=by unfold eM;rw [jK,FO (by intro h;rw [h] at h142;simp at h142)]
  exact ig (gd:=fun z:qN s.fr=>z.1.1) (E:=qL s) (.inl rfl) ⟨(n,go,gd,zs),hzs⟩ [0,1,2,3] T rfl (be rfl bn bn) (cT (by rw [bad e O];exact cN) (J.err e.symm))
 refine U 5123501004016 ?_;refine aX (fun h144=>?_) fun h144=>?_
 ·refine oU ?_;refine pZ (.rd 0 (.rd 1 (.rd 2 .done))) ?_;refine eF (iv 2) ?_;refine U 3000500070008807070 ?_
  have hf0:s.fr=[]:=Gq O
  have e:eM s=3:=by unfold eM;rw [jK,FN (by simp [hf0]),jP]
  exact ig (gd:=fun z:qN s.fr=>z.1.1) (E:=qL s) (.inl rfl) ⟨(n,go,gd,zs),hzs⟩ [0,1,2,3] T rfl (be rfl bn bn) (cT (by rw [bad e O];exact cN) (J.err e.symm))
 refine U 501004016840010 ?_
 refine aL (dc 2 (uS s.d gd O) ?_)
 refine U 7000511 ?_
 have hf0:s.fr=[]:=Gq O
 have e:eM s=0:=by unfold eM;rw [jK,FN (by simp [hf0]),jK]
 exact ig (gd:=fun z:qN s.fr=>z.1.1) (E:=qL s) (.inl rfl) ⟨(n,go,gd,zs),hzs⟩ [0,1,2,3] T rfl (be rfl bn bn) (cT (J.bs (by unfold nN;rw [FO e])) (J.nilE e))
theorem zB (n:Nat) (s:W8) (z:Int) (hz:-9223372036854775808≤z∧z≤9223372036854775807) (hs:pb s):AC gs prog 58 [eE n s] [.op 0 (some n) 0,.c (.int .i64 z)] (fun r H'=>r=.c (.tuple #[])∧H'=[eE n (co 2 (dW z) 0 s)]):=by
 have hl:=(i9 z hz.1 hz.2).2
 refine ag 8 func58 fun _ _ _ _=>?_;refine U 11200 ?_
 refine ay (aD (yp z hz.1 hz.2) ?_)
 refine aL (dc 0 (i7 n s 2 (dW z) 0 hs O) ?_)
 refine U 5 ?_
 exact aY (.inr rfl) _ [_] [0] T rfl (bo rfl) ⟨rfl,rfl⟩
theorem rl (n:Nat) (s:W8) (b:V) (hb:b.length≤1000000) (hs:pb s):AC gs prog 101 [eE n s] [.op 0 (some n) 0,dL b] (fun r H'=>r=.c (.tuple #[])∧H'=[eE n (co 4 b 0 s)]):=by
 refine ag 7 func101 fun _ _ _ _=>?_;refine U 11200 ?_
 refine aL (dc 0 (i7 n s 4 b 0 hs hb) ?_)
 refine U 5 ?_
 exact aY (.inr rfl) _ [_] [0] T rfl (bo rfl) ⟨rfl,rfl⟩
theorem vc [pf gs] (n:Nat) (s:W8) (t:V) (most:Int) (ht:t.length≤1000000) (hs:pb s):AC gs prog 59 [eE n s] [.op 0 (some n) 0,bi t,.c (.int .i64 most)] (fun r H'=>r=.c (.tuple #[])∧H'=[eE n (co 12 (if ax t most=0 then t else []) (ax t most) s)]):=by
 have hl:(if ax t most=0 then t else []).length≤1000000:=by split<;>first|omega|simp
 refine ag 18 func59 fun _ _ _ _=>?_;refine U 116 ?_
 refine ay (aD (ym t most O) ?_)
 refine U 1112005119009001 ?_
 refine aL (dc 0 (i7 n s 12 (if ax t most=0 then t else []) (ax t most) hs hl) ?_)
 refine U 5 ?_
 exact aY (.inr rfl) _ [_] [0] T rfl (bo rfl) ⟨rfl,rfl⟩
theorem rq (n:Nat) (s:W8) (z:Int) (hs:pb s):AC gs prog 102 [eE n s] [.op 0 (some n) 0,.c (.int .i64 z)] (fun r H'=>r=.c (.tuple #[])∧H'=[eE n (co 24 (if ln z then bh (eZ z) else []) (sv z) s)]):=by
 have hbl:(if ln z then bh (eZ z) else []).length≤1000000:=by
  split
  exact Gm (GP (show (bh (eZ z)).length=15 from rfl)) T
  ·simp
 refine ag 15 func102 fun _ _ _ _=>?_;refine U 16 ?_
 refine ay (aD (BU z) ?_)
 refine U 1112005119009001 ?_
 refine aL (dc 0 (i7 n s 24 (if ln z then bh (eZ z) else []) (sv z) hs hbl) ?_)
 refine U 5 ?_
 exact aY (.inr rfl) _ [_] [0] T rfl (bo rfl) ⟨rfl,rfl⟩
def Ee:W8:=⟨[],[],0⟩
theorem fE {α:Type} (l:List α) (n i:Nat) (x:α) (h:n≤i):(l.set i x).take n=l.take n:=by
 rw [List.take_set,List.set_eq_of_length_le]
 rw [F6];omega
theorem Ew {G:Gh} {env:List (Nat×CV)} {b0:Nat→CV} {H:List (Option Nat×av)} (n i:Nat) {f:Nat→CV} (hi:H[i]?=some (some n,.blk 3 f)) (h0:J (f 0) (.c (.slice none 0 0))) (h1:J (f 1) (.c (.slice none 0 0))) (h2:J (f 2) (.err 0)):aZ G ⟨env,b0,H⟩ ⟨env,b0,H.set i (eE n Ee)⟩:=by
 have hil:=(FL.1 hi).1
 have os0:∀ {j k:Nat},J (.c (.slice none 0 0)) (.os j none 0 0 k):=fun al St w v h=>⟨rfl,h⟩
 intro St a w hr
 obtain ⟨S1,s1,r1⟩:=jp (G:=G) (s:=⟨env,b0,H⟩) (cF 2 jz kr []) St a w hr
 obtain ⟨S2,s2,r2⟩:=jp (G:=G) (s:=⟨env,b0,H++[(none,.blk 0 (cF 2 jz kr []))]⟩) (bX []) S1 a w r1
 obtain ⟨S3,s3,r3⟩:=bag_new (G:=G) (env:=env) (b0:=b0) (H:=H++[(none,.blk 0 (cF 2 jz kr []))]++[(none,.blk 0 (bX []))]) S2 a w r2
 obtain ⟨S4,s4,r4⟩:=iU (G:=G) (env:=env) (b0:=b0) (H:=H++[(none,.blk 0 (cF 2 jz kr []))]++[(none,.blk 0 (bX []))]++[gh []]) n Ee [] i H.length (H.length+1) (H.length+2) rfl (go:=none) (gd:=none) (No:=0) (Nd:=0) (f:=f) (Fo:=cF 2 jz kr []) (Fd:=bX [])
  (by rw [GC,GC,FR hil];exact hi) (by simp) (by simp []) (by simp []) (by simp;omega) (h0.trans os0) (h1.trans os0) h2 (FQ _) (fun a h=>absurd h (F3 a)) (FQ _) (fun a h=>absurd h (F3 a)) S3 a w r3
 obtain ⟨S5,s5,r5⟩:=gA (G:=G) (H':=H.set i (eE n Ee)) (List.range H.length) (dO _) (by
  rw [dP _ _ (by simp)]
  simp only [GC]
  rw [fE _ _ _ _ O,fE _ _ _ _ O,fE _ _ _ _ O,List.take_set,List.take_left]) S4 a w r4
 exact ⟨S5,fun b hb=>s5 b (s4 b (s3 b (s2 b (s1 b hb)))),r5⟩
theorem Fh:pb Ee:=⟨by decide,fun _ h=>(by cases h),by decide⟩
structure Fz (v:VV):Prop where
 n:-9223372036854775808≤v.n∧v.n≤9223372036854775807
 b:v.b.length≤1000000
 t:v.t.length≤1000000
structure FA (s:R8):Prop where
 ok:FB s
 sum:∀ j,br (s.rows.getD j [])≤1000000
 tag:∀ x ∈ s.tags,0≤x∧x<256
 lt:s.tags.length≠0→s.tags.length<s.rows.length
end
section
open Go.RowKit Cal
structure dI (v:VV):Prop where
 n:-9223372036854775808≤v.n∧v.n≤9223372036854775807
 b:v.b.length≤300
 t:v.t.length≤300
theorem dI.ok {v:VV} (h:dI v):Fz v:=⟨h.n,by have:=h.b;omega,by have:=h.t;omega⟩
def pd (fr:List (Int×FI)):Nat:=(fr.map fun x=>br x.2+6).sum
def mC (s:W8):Nat:=s.d.length+pd s.fr
theorem gN (x:Int×FI) (fr:List (Int×FI)):pd (x::fr)=br x.2+6+pd fr:=by simp [pd]
theorem tG (l:FI) (b:V):br (l++[b])=br l+b.length:=by rw [lH];simp [br]
theorem bQ (tag:Int) (b:V):(cS tag b).length≤b.length+6:=by
 unfold cS
 have:=oN b.length
 simp only [List.length_cons,FX]
 omega
theorem u6 (b:V) (s:W8):mC (aK b s)=mC s+b.length:=by
 have ⟨fr,d,k⟩:=s
 cases fr with
 | nil=>simp [mC,aK,pd]
 | cons x fr =>
  show d.length+pd ((x.1,x.2++[b])::fr)=d.length+pd (x::fr)+_
  rw [gN,gN]
  show d.length+(br (x.2++[b])+6+pd fr)=_
  rw [tG]
  omega
theorem oa (e:Nat) (s:W8):mC (bg e s)=mC s:=by unfold bg;split<;>rfl
theorem qO (tag:Int) (b:V) (e:Nat) (s:W8):mC (co tag b e s)≤mC s+b.length+6:=by
 unfold co
 split
 ·rw [oa];omega
 ·split
  ·show s.d.length+pd s.fr≤_;unfold mC;omega
  ·rw [u6];have:=bQ tag b;omega
theorem kR {v:VV} (h:dI v):(ah v).2.1.length≤300:=by
 have h1:=h.b
 have h2:=h.t
 have h3:=(i9 v.n h.n.1 h.n.2).2
 have h4:=sq v.t
 unfold ah
 split
 show (dW v.n).length≤_;omega
 ·split
  show (dW v.n).length≤_;omega
  ·split
   ·show [if v.is then (255:UInt8) else 0].length≤_;simp
   ·split
    exact h1
    ·split
     ·show (if ax v.t v.n=0 then v.t else []).length≤_;split<;>first|omega|simp
     ·split
      show (mH v.t).length≤_;omega
      ·split
       ·show (if ln v.n then bh (eZ v.n) else []).length≤_
        split
        exact Gm (GP (show (bh (eZ v.n)).length=15 from rfl)) T
        ·simp
       ·show (s0 v.n).length≤_
        unfold s0
        split
        ·simp
        ·rw [uG O]
         have:=(A4 (m:=v.n.toNat) O).2
         omega
theorem C5 {v:VV} (h:dI v) (s:W8):mC (ix v s)≤mC s+400:=by
 have hb:=h.b
 unfold ix
 split
 ·unfold bq
  split
  omega
  ·split
   ·show s.d.length+pd s.fr≤_;unfold mC;omega
   ·split
    ·show s.d.length+pd s.fr≤_;unfold mC;omega
    ·show s.d.length+pd _≤_
     rw [gN]
     unfold mC
     simp [br];omega
 ·split
  ·unfold bB
   split
   omega
   ·have ⟨fr,d,k⟩:=s
    cases fr with
    | nil=>show d.length+pd []≤d.length+pd []+_;omega
    | cons x fr =>
     have h1:=qO x.1 (d5 x) 0 ⟨fr,d,k⟩
     rw [nW] at h1
     refine Gm h1 ?_
     show d.length+pd fr+_+_≤d.length+pd (x::fr)+_
     rw [gN]
     omega
  ·split
   ·unfold vW
    split
    ·rw [u6];omega
    ·rw [oa];omega
   ·have h1:=qO (ah v).1 (ah v).2.1 (ah v).2.2 s
    have h2:=kR h
    omega
theorem ss {m:Nat} {r:List (FI)} {x:FI} (h:x ∈ kY m r):x ∈ r∨x=[]:=by
 unfold kY at h
 rcases HE.1 h with h|h
 exact .inl h
 exact .inr (List.eq_of_mem_replicate h)
theorem xW (r:List (FI)) (j:Nat):r.getD j [] ∈ r∨r.getD j []=[]:=by
 rw [FJ]
 cases e:r[j]? with
 | none=>exact .inr rfl
 | some x=>exact .inl (Gy e)
def tg (r r':R8):Prop:=(r'.rows.length≤max r.rows.length (r'.tags.length+1))∧∀ x ∈ r'.rows,x ∈ r.rows∨x=[]∨∃ y b,(y ∈ r.rows∨y=[])∧x=y++[b]∧x=r'.rows.getD r'.tags.length []
theorem cV {r r':R8} (h:r'.rows=r.rows):tg r r':=⟨by rw [h];omega,fun x I=>.inl (h ▸ I)⟩
theorem nF (b:V) (r:R8):tg r (sm b r):=by
 have hp:r.tags.length<(kY (r.tags.length+1) r.rows).length:=by rw [ja];omega
 refine ⟨?_,fun x I=>?_⟩
 ·show (List.set _ _ _).length≤max _ (r.tags.length+1)
  rw [Gg,ja]
  omega
 ·rcases HM I with h|h
  ·rcases ss h with h|h
   exact .inl h
   exact .inr (.inl h)
  ·refine .inr (.inr ⟨_,b,?_,h,?_⟩)
   ·rw [fO];exact xW _ _
   ·show x=List.getD (List.set _ _ _) r.tags.length []
    rw [gW _ _ _ _ hp,FO rfl]
    exact h
theorem nD (t:Int) (b:V) (r:R8):tg r (m8 t b r):=by
 unfold m8
 split
 exact cV rfl
 exact nF _ r
theorem qe (v:VV) (r:R8):tg r (gc v r):=by
 unfold gc
 split
 exact cV rfl
 ·split
  ·unfold oC
   split
   exact cV rfl
   ·split
    exact cV rfl
    ·refine ⟨?_,fun x I=>?_⟩
     ·show (List.set _ _ _).length≤max _ ((r.tags++[v.n]).length+1)
      rw [Gg,ja,FX,G2]
      omega
     ·rcases HM I with h|h
      ·rcases ss h with h|h
       exact .inl h
       exact .inr (.inl h)
      exact .inr (.inl h)
  ·split
   ·unfold lg
    split
    exact cV rfl
    exact nD _ _ ⟨_,r.rows,r.e⟩
   ·split
    ·split
     exact cV rfl
     exact nF _ r
    ·split
     exact cV rfl
     exact nD _ _ r
theorem sO {fr:List (Int×FI)} {x:Int×FI} (h:x ∈ fr):br x.2≤pd fr:=by
 induction fr with
 | nil=>cases h
 | cons y fr ih =>
  rw [gN]
  rcases Gb.1 h with rfl|h
  omega
  ·have:=ih h;omega
theorem mq {r:R8} {s:W8} (h:fC r s):br (r.rows.getD r.tags.length [])≤mC s:=by
 have hl:r.tags.length=s.fr.length:=by rw [h.tags];simp
 have ⟨fr,d,k⟩:=s
 cases fr with
 | nil =>
  rw [hl]
  show br (r.rows.getD 0 [])≤_
  rw [← jm,h.row0]
  unfold mC
  omega
 | cons x fr =>
  have hr:=h.row fr.length (by simp)
  rw [hl]
  show br (r.rows.getD (fr.length+1) [])≤_
  rw [hr]
  have e:((x::fr).map Prod.snd).reverse.getD fr.length []=x.2:=by simp [FJ]
  show br (((x::fr).map Prod.snd).reverse.getD fr.length [])≤_
  rw [e]
  have:=sO (fr:=x::fr) (x:=x) F2
  unfold mC
  show _≤d.length+pd (x::fr)
  omega
structure dJ (i:Nat) (r:R8) (s:W8):Prop where
 same:fC r s
 w:mC s≤400 * i
 rows:∀ x ∈ r.rows,x.length≤i∧br x≤400 * i
 n:r.rows.length≤18
theorem wX:dJ 0 ⟨[],[],0⟩ ⟨[],[],0⟩:=⟨tL,by decide,fun _ h=>(by cases h),by decide⟩
theorem fU {i:Nat} {r:R8} {s:W8} (h:dJ i r s) {v:VV} (hv:dI v):dJ (i+1) (gc v r) (ix v s):=by
 have hs:=sf h.same v
 have hw:=C5 hv s
 have hg:=qe v r
 have h0:=h.w
 have hl:(gc v r).tags.length≤16:=by rw [hs.tags];simpa using hs.lim
 refine ⟨hs,by omega,fun x I=>?_,?_⟩
 ·rcases hg.2 x I with h1|h1|⟨y,b,h1,h2,h3⟩
  ·have:=h.rows x h1;omega
  ·subst h1;simp [br]
  ·have ha:=mq hs
   rw [← h3] at ha
   refine ⟨?_,by omega⟩
   rw [h2,FX,G2]
   rcases h1 with h1|h1
   ·have:=h.rows y h1;omega
   ·subst h1;simp
 ·have:=hg.1
  have:=h.n
  omega
theorem wZ {i:Nat} {r:R8} {s:W8} (h:dJ i r s) (e:Nat):dJ i ⟨r.tags,r.rows,if r.e=0 then e else r.e⟩ (bg e s):=by
 have hs:=h.same
 refine ⟨?_,by rw [oa];exact h.w,h.rows,h.n⟩
 unfold bg
 rw [hs.e]
 split
 exact ⟨hs.tags,rfl,hs.row0,hs.row,hs.len,hs.known,hs.lim⟩
 exact ⟨hs.tags,rfl,hs.row0,hs.row,hs.len,hs.known,hs.lim⟩
theorem cM {i:Nat} {r:R8} {s:W8} (h:dJ i r s) (hi:i≤1000):pb s:=by
 have hw:=h.w
 refine ⟨h.same.lim,fun x I=>?_,by unfold mC at hw;omega⟩
 have ⟨j,hj⟩:=Hb.1 I
 have hjl:=(FL.1 hj).1
 have hr:=h.same.row (s.fr.length-1-j) O
 have e:(s.fr.map Prod.snd).reverse.getD (s.fr.length-1-j) []=x.2:=by
  rw [FJ,H9 (by simp;omega)]
  simp only [H7,GQ]
  rw [show s.fr.length-1-(s.fr.length-1-j)=j by omega,hj]
  rfl
 rw [e] at hr
 have hs:=sO I
 unfold mC at hw
 refine ⟨?_,by omega⟩
 rcases xW r.rows (s.fr.length-1-j+1) with h1|h1
 ·have:=(h.rows _ h1).1
  rw [hr] at this
  omega
 ·rw [hr] at h1
  rw [h1];simp
end
section
variable {P:Program} {G:Gh} {s:AS} {c:Code} {R:Exit→AS→Prop} {n k:Nat} {l:FI}
end
def Ev (l:FI):V:=l.getD (l.length-1) []
def wx (l:FI) (k:Nat):Bool:=decide (k=0) && decide (0<(Ev l).length)
section
variable {gs:List Nat} [du gs]
structure NR where
 l:FI
 k:Nat
 tag:Nat
 body:V
 raw:V
 is:Bool
end
section
variable {gs:List Nat} [x7 gs]
end
section
variable {gs:List Nat} [du gs]
section
variable {b:V} {k:Nat} {X:List Int}
end
end
section
variable {gs:List Nat} [du gs]
open Go.RowKit Cal
end
section
open Go.RowKit Cal
def dg (b:V) (i:Nat):Int:=((b.getD i 0).toNat:Int)-48
def wV (b:V) (i:Nat):Prop:=48≤((b.getD i 0).toNat:Int)∧((b.getD i 0).toNat:Int)≤57
instance (b:V) (i:Nat):Decidable (wV b i):=by unfold wV;infer_instance
def two (b:V) (j:Nat):Int:=10 * dg b (2 * j)+dg b (2 * j+1)
def qh (b:V):D6:=⟨100 * two b 0+two b 1,two b 2,two b 3,two b 4,two b 5,two b 6⟩
def qk (b:V):Prop:=b.length=15∧((b.getD 14 0).toNat:Int)=90∧∀ i,i<14→wV b i
instance (b:V):Decidable (qk b):=by unfold qk;infer_instance
def zG (b:V):Nat:=if qk b then (if eY (qh b) then 0 else 1) else 4
def zF (b:V):Int:=if qk b∧eY (qh b) then Bt (qh b) else 0
theorem sZ {x:D6} (h:eY x):(∀ i,i<14→wV (bh x) i)∧qh (bh x)=x:=by
 have ⟨q1,q2,q3,q4,q5,q6,q7,q8,q9,q10⟩:=id h
 have qm:=jt q3 q4
 have qd:=sW x.y x.m
 have q:∀ n p:Int,0≤n→1≤p→((qo n p).toNat:Int)=48+n / p % 10:=fun n p hn hp=>qn (Int.ediv_nonneg hn O)
 have e:∀ i,i<14→∃ n p:Int,(bh x).getD i 0=qo n p∧0≤n∧1≤p:=by
  intro i hi
  rcases i with _|_|_|_|_|_|_|_|_|_|_|_|_|_|i
  exact ⟨x.y,1000,rfl,by omega,by omega⟩
  exact ⟨x.y,100,rfl,by omega,by omega⟩
  exact ⟨x.y,10,rfl,by omega,by omega⟩
  exact ⟨x.y,1,rfl,by omega,by omega⟩
  exact ⟨x.m,10,rfl,by omega,by omega⟩
  exact ⟨x.m,1,rfl,by omega,by omega⟩
  exact ⟨x.d,10,rfl,by omega,by omega⟩
  exact ⟨x.d,1,rfl,by omega,by omega⟩
  exact ⟨x.h,10,rfl,by omega,by omega⟩
  exact ⟨x.h,1,rfl,by omega,by omega⟩
  exact ⟨x.mi,10,rfl,by omega,by omega⟩
  exact ⟨x.mi,1,rfl,by omega,by omega⟩
  exact ⟨x.s,10,rfl,by omega,by omega⟩
  exact ⟨x.s,1,rfl,by omega,by omega⟩
  omega
 refine ⟨fun i hi=>?_,?_⟩
 ·have ⟨n,p,h1,h2,h3⟩:=e i hi
  unfold wV
  rw [h1,q n p h2 h3]
  omega
 ·have dd:∀ (i:Nat) (n p:Int),(bh x).getD i 0=qo n p→0≤n→1≤p→dg (bh x) i=n / p % 10:=fun i n p h1 h2 h3=>by
   unfold dg
   rw [h1,q n p h2 h3]
   omega
  have t0:two (bh x) 0=10 * (x.y / 1000 % 10)+x.y / 100 % 10:=by unfold two;rw [dd (2 * 0) x.y 1000 rfl O O,dd (2 * 0+1) x.y 100 rfl O O]
  have t1:two (bh x) 1=10 * (x.y / 10 % 10)+x.y / 1 % 10:=by unfold two;rw [dd (2 * 1) x.y 10 rfl O O,dd (2 * 1+1) x.y 1 rfl O O]
  have t2:two (bh x) 2=x.m:=by unfold two;rw [dd (2 * 2) x.m 10 rfl O O,dd (2 * 2+1) x.m 1 rfl O O];omega
  have t3:two (bh x) 3=x.d:=by unfold two;rw [dd (2 * 3) x.d 10 rfl O O,dd (2 * 3+1) x.d 1 rfl O O];omega
  have t4:two (bh x) 4=x.h:=by unfold two;rw [dd (2 * 4) x.h 10 rfl O O,dd (2 * 4+1) x.h 1 rfl O O];omega
  have t5:two (bh x) 5=x.mi:=by unfold two;rw [dd (2 * 5) x.mi 10 rfl O O,dd (2 * 5+1) x.mi 1 rfl O O];omega
  have t6:two (bh x) 6=x.s:=by unfold two;rw [dd (2 * 6) x.s 10 rfl O O,dd (2 * 6+1) x.s 1 rfl O O];omega
  unfold qh
  rw [t0,t1,t2,t3,t4,t5,t6]
  have:100 * (10 * (x.y / 1000 % 10)+x.y / 100 % 10)+(10 * (x.y / 10 % 10)+x.y / 1 % 10)=x.y:=by omega
  rw [this]
theorem qf {x:D6} (h:eY x):zG (bh x)=0∧zF (bh x)=Bt x:=by
 have hf:qk (bh x):=⟨rfl,by show (((90:UInt8).toNat:Nat):Int)=90;rfl,(sZ h).1⟩
 have hg:=(sZ h).2
 unfold zG zF
 rw [hg,FO hf,FO h,FO ⟨hf,h⟩]
 exact ⟨rfl,rfl⟩
end
section
variable {gs:List Nat} [du gs]
open Go.RowKit Cal
end
section
variable {gs:List Nat} [du gs]
def wt (least most:Int) (b:V):V×Nat:=if (b.length:Int)<least then ([],2) else if most<(b.length:Int) then ([],3) else (b,0)
end
section
variable {gs:List Nat} [du gs]
open Go.RowKit Cal
structure AA where
 kind:Int
 tag:Int
 least:Int
 most:Int
def vN (n:Int):VV:=⟨0,n,false,[],[]⟩
def vI (b:Bool):VV:=⟨0,0,b,[],[]⟩
def vB (b:V):VV:=⟨0,0,false,b,[]⟩
def vT (t:V):VV:=⟨0,0,false,[],t⟩
def saidM (a:AA) (b:V):VV×Nat :=
 if a.kind=3 then (vN (eU b a.least a.most).1,(eU b a.least a.most).2) else
 if a.kind=4 then (vN (eU b a.least a.most).1,(eU b a.least a.most).2) else
 if a.kind=5 then (vI (sH b).1,(sH b).2) else
 if a.kind=6 then (vB (wt a.least a.most b).1,(wt a.least a.most b).2) else
 if a.kind=7 then (vT (if ax b a.most=0 then b else []),ax b a.most) else
 if a.kind=8 then (vT (AF b).1,(AF b).2) else
 if a.kind=9 then (vN (zF b),zG b) else (vN ((AG b).1:Nat),(AG b).2)
def vd (a:AA):Int:=if a.kind=3 then 2 else if a.kind=4 then 10 else if a.kind=5 then 1 else if a.kind=6 then 4 else if a.kind=7 then 12 else if a.kind=8 then 6 else if a.kind=9 then 24 else 3
structure FE where
 l:FI
 k:Nat
 v:VV
end
section
open Go.RowKit Cal
def E4 (l:FI) (k:Nat):Nat:=br l+if k=0 then 1 else 0
abbrev td (α:Type):=FI→Nat→(FI×Nat)×α
structure EQ {α:Type} (sp:td α):Prop where
 mu:∀ l k,0<l.length→wx l k=true→E4 (sp l k).1.1 (sp l k).1.2<E4 l k
 len:∀ l k,0<l.length→wx l k=true→(sp l k).1.2=0→(sp l k).1.1.length=l.length
 grow:∀ l k,0<l.length→wx l k=true→l.length≤(sp l k).1.1.length∧(sp l k).1.1.length≤l.length+16
section
variable {α:Type} (sp:td α) (l0:FI) (k0:Nat) (most:Int)
variable {sp l0 k0 most}
end
end
section
open Go.RowKit Cal
structure FC (x:V) (t:Nat) (b:V):Prop where
 nx:∀ r,dQ (x++r)=⟨0,t,b,r⟩
 pos:0<x.length
 wh:∀ lv,lv≤16→(lE lv t b).2=0∨(lE lv t b).2=6
def Ff (x:V):Prop:=∃ t b,FC x t b
structure Fg (s:W8):Prop where
 fr:∀ f ∈ s.fr,cL f.1=true∧∀ y ∈ f.2,Ff y
 d:∃ xs:FI,s.d=xs.flatten∧∀ x ∈ xs,Ff x
def gR (vs:List VV) (s:W8):W8:=vs.foldl (fun s v=>ix v s) s
def vL (vs:List VV) (r:R8):R8:=vs.foldl (fun r v=>gc v r) r
theorem nP (a b:List VV) (s:W8):gR (a++b) s=gR b (gR a s):=by unfold gR;rw [HT]
theorem gK {i j:Nat} {r:R8} {s:W8} (h:dJ i r s) (hij:i≤j):dJ j r s :=
 ⟨h.same,by have:=h.w;omega,fun x I=>by have:=h.rows x I;omega,h.n⟩
theorem sI:∀ (vs:List VV) {i:Nat} {r:R8} {s:W8},dJ i r s→(∀ v ∈ vs,dI v)→dJ (i+vs.length) (vL vs r) (gR vs s)
 | [],i,r,s,h,_=>h
 | v::vs,i,r,s,h,hv=>by
  have:=sI vs (fU h (hv v F2)) fun x I=>hv x (F9 _ I)
  rw [List.length_cons,show i+(vs.length+1)=i+1+vs.length by omega]
  exact this
theorem mb (s:W8):bg 0 s=s:=by
 unfold bg
 split
 ·rename_i h;rw [← h]
 rfl
theorem oI {t:Int} {s:W8} (hk:s.k=0) (ht:cL t=true) (hl:s.fr.length<16):bq t s=⟨(t,[])::s.fr,s.d,0⟩:=by
 unfold bq
 rw [jK,FN (by rw [ht];decide),jK,hk]
theorem jW {t:Int} {b:V} {s:W8} (hk:s.k=0) (ht:bW t=true) (hb:b.length≤65530):co t b 0 s=aK (cS t b) s:=by
 unfold co
 rw [mb,jK,FN (by unfold iJ;rw [FN (by rw [ht];decide),jK];decide)]
theorem ju {t:Int} {ls:FI} {fr:List (Int×FI)} {d:V} (ht:bW t=true) (h9:t≠49) (hb:ls.flatten.length≤65530):bB ⟨(t,ls)::fr,d,0⟩=aK (cS t ls.flatten) ⟨fr,d,0⟩:=by
 have hf:d5 (t,ls)=ls.flatten:=by unfold d5;rw [FN h9]
 show co t (d5 (t,ls)) 0 ⟨fr,d,0⟩=_
 rw [hf,jW rfl ht hb]
def mP (x:Int×V):V:=cS x.1 x.2
structure ET (d:Nat) (x:Int×V):Prop where
 known:bW x.1=true
 len:x.2.length≤65530
 wh:∀ lv,d≤lv→(lE lv x.1.toNat x.2).2=0
theorem ET.mono {d e:Nat} {x:Int×V} (h:ET d x) (hd:d≤e):ET e x:=⟨h.known,h.len,fun lv hl=>h.wh lv O⟩
theorem zQ (x:Int×V):0<(mP x).length:=by unfold mP cS;simp
structure ER {α:Type} (sp:td α) (enc:α→V) (good:α→Prop):Prop where
 fwd:∀ (ls:FI) a r,good a→sp (ls++[enc a++r]) 0=((ls++[r],0),a)
 back:∀ (ls:FI) x k,(sp (ls++[x]) k).1.2=0→k=0∧∃ a r,good a∧x=enc a++r∧sp (ls++[x]) k=((ls++[r],0),a)
 pos:∀ a,good a→0<(enc a).length
section
variable {α:Type} {sp:td α} {enc:α→V} {good:α→Prop}
end
end
section
open Go.RowKit Cal
theorem xS {v:VV} (hn:-9223372036854775808≤v.n∧v.n≤9223372036854775807) (ht:v.t.length≤300):(ah v).2.1.length≤max 300 v.b.length:=by
 by_cases h6:v.kind=6
 ·have e:ah v=(4,v.b,0):=by unfold ah;rw [jK,jK,jK,FO h6]
  rw [e]
  show v.b.length≤_
  omega
 ·have hs:dI ⟨v.kind,v.n,v.is,[],v.t⟩:=⟨hn,by simp,ht⟩
  have:=kR hs
  have e:ah ⟨v.kind,v.n,v.is,[],v.t⟩=ah v:=by
   unfold ah
   dsimp only
   rw [FN h6,FN h6]
  rw [e] at this
  omega
theorem zy {i:Nat} {r:R8} {s:W8} (h:dJ i r s) {v:VV} {u:Nat} (hn:-9223372036854775808≤v.n∧v.n≤9223372036854775807) (ht:v.t.length≤300) (hk:3≤v.kind∧v.kind≤10) (hu:1≤u) (hb:v.b.length+10≤400 * u):dJ (i+u) (gc v r) (ix v s):=by
 have hs:=sf h.same v
 have hw:mC (ix v s)≤mC s+400 * u:=by
  have e:ix v s=co (ah v).1 (ah v).2.1 (ah v).2.2 s:=by
   unfold ix
   rw [jK,jK,jK]
  have h1:=qO (ah v).1 (ah v).2.1 (ah v).2.2 s
  have h2:=xS hn ht
  rw [e]
  omega
 have hg:=qe v r
 have h0:=h.w
 have hl:(gc v r).tags.length≤16:=by rw [hs.tags];simpa using hs.lim
 refine ⟨hs,by omega,fun x I=>?_,?_⟩
 ·rcases hg.2 x I with h1|h1|⟨y,b,h1,h2,h3⟩
  ·have:=h.rows x h1;omega
  ·subst h1;simp [br]
  ·have ha:=mq hs
   rw [← h3] at ha
   refine ⟨?_,by omega⟩
   rw [h2,FX,G2]
   rcases h1 with h1|h1
   ·have:=h.rows y h1;omega
   ·subst h1;simp;omega
 ·have:=hg.1
  have:=h.n
  omega
theorem rR {v:VV} (h:3≤v.kind∧v.kind≤10):(v.kind=3∧ah v=(2,dW v.n,0))∨(v.kind=4∧ah v=(10,dW v.n,0))∨(v.kind=5∧ah v=(1,[if v.is then 255 else 0],0))∨(v.kind=6∧ah v=(4,v.b,0)) ∨
  (v.kind=7∧ah v=(12,if ax v.t v.n=0 then v.t else [],ax v.t v.n))∨(v.kind=8∧ah v=(6,mH v.t,(bI v.t).2))∨(v.kind=9∧ah v=(24,if ln v.n then bh (eZ v.n) else [],sv v.n))∨(v.kind=10∧ah v=(3,s0 v.n,A5 v.n)):=by
 obtain h|h|h|h|h|h|h|h:v.kind=3∨v.kind=4∨v.kind=5∨v.kind=6∨v.kind=7∨v.kind=8∨v.kind=9∨v.kind=10:=by omega
 exact .inl ⟨h,by unfold ah;rw [FO h]⟩
 exact .inr (.inl ⟨h,by unfold ah;rw [jK,FO h]⟩)
 exact .inr (.inr (.inl ⟨h,by unfold ah;rw [jK,jK,FO h]⟩))
 exact .inr (.inr (.inr (.inl ⟨h,by unfold ah;rw [jK,jK,jK,FO h]⟩)))
 exact .inr (.inr (.inr (.inr (.inl ⟨h,by unfold ah;rw [jK,jK,jK,jK,FO h]⟩))))
 exact .inr (.inr (.inr (.inr (.inr (.inl ⟨h,by unfold ah;rw [jK,jK,jK,jK,jK,FO h]⟩)))))
 exact .inr (.inr (.inr (.inr (.inr (.inr (.inl ⟨h,by unfold ah;rw [jK,jK,jK,jK,jK,jK,FO h]⟩))))))
 exact .inr (.inr (.inr (.inr (.inr (.inr (.inr ⟨h,by unfold ah;rw [jK,jK,jK,jK,jK,jK,jK]⟩))))))
theorem Eo {v:VV} (h:3≤v.kind∧v.kind≤10):bW (ah v).1=true∧cL (ah v).1=false∧(ah v).1≠0:=by
 obtain ⟨_,e⟩|⟨_,e⟩|⟨_,e⟩|⟨_,e⟩|⟨_,e⟩|⟨_,e⟩|⟨_,e⟩|⟨_,e⟩:=rR h<;>(rw [e];dsimp only;decide)
theorem sU {v:VV} (h:3≤v.kind∧v.kind≤10) (s:W8):ix v s=co (ah v).1 (ah v).2.1 (ah v).2.2 s:=by
 unfold ix
 rw [jK,jK,jK]
end
section
variable {gs:List Nat} [cw gs]
theorem J.rsL {k n m:Nat} {f g:Nat→Nat→CV} (h:n=m) (hf:f=g):J (.rs k n f) (.rs k m g):=by subst h hf;exact cZ
end
section
open Go.RowKit Cal
def v8 (t:V):VV:=⟨8,0,false,[],t⟩
def v7 (t:V) (most:Int):VV:=⟨7,most,false,[],t⟩
def w1 (tag:Int):VV:=⟨1,tag,false,[],[]⟩
def w2:VV:=⟨2,0,false,[],[]⟩
def pv (p:P2):List VV:=[w1 48,v8 p.1,v7 p.2 64,w2]
def kf (s:S3):List VV:=w1 48::((dX s).flatMap pv++[w2])
def vX (s:S3) (w:W8):W8:=if en s=true then gR (kf s) w else bg 9 w
def ra (s:S3) (r:R8):R8:=if en s=true then vL (kf s) r else ⟨r.tags,r.rows,if r.e=0 then 9 else r.e⟩
theorem nO (tag:Int) (s:W8):ix (w1 tag) s=bq tag s:=by unfold ix;rw [FO (show (w1 tag).kind=1 from rfl)];rfl
theorem qw (s:W8):ix w2 s=bB s:=by unfold ix;rw [FN (show ¬ w2.kind=1 by decide),FO (show w2.kind=2 from rfl)]
theorem DW (t:V) (s:W8):ix (v8 t) s=co 6 (mH t) (bI t).2 s:=by
 unfold ix
 rw [FN (show ¬ (v8 t).kind=1 by show ¬ (8:Int)=1;decide),FN (show ¬ (v8 t).kind=2 by show ¬ (8:Int)=2;decide),FN (show ¬ (v8 t).kind=11 by show ¬ (8:Int)=11;decide)]
 rfl
theorem DX (t:V) (m:Int) (s:W8):ix (v7 t m) s=co 12 (if ax t m=0 then t else []) (ax t m) s:=by
 unfold ix
 rw [FN (show ¬ (v7 t m).kind=1 by show ¬ (7:Int)=1;decide),FN (show ¬ (v7 t m).kind=2 by show ¬ (7:Int)=2;decide),FN (show ¬ (v7 t m).kind=11 by show ¬ (7:Int)=11;decide)]
 rfl
theorem kk {l:V} (h:fS l=true):(∀ c ∈ l,32≤c.toNat∧c.toNat<127)∧l≠[]∧l.length≤24:=by
 simp only [fS,FK,FT,F5] at h
 have ⟨⟨⟨⟨h1,h2⟩,_⟩,_⟩,h5⟩:=h
 refine ⟨fun c hc=>?_,h1,h2⟩
 have:=h5 c hc
 simp only [k7,GE,FK,FT] at this
 omega
theorem kJ:∀ {l:V},(∀ c ∈ l,32≤c.toNat∧c.toNat<127)→fN l=true
 | [],_=>rfl
 | c::l,h=>by
  have hc:=h c F2
  have e:bt (c::l) 0=c.toNat:=rfl
  rw [tW (by simp) (by rw [e];omega),e,jK]
  exact kJ fun d hd=>h d (F9 _ hd)
theorem eP {l:V} {m:Int} (h:∀ c ∈ l,32≤c.toNat∧c.toNat<127) (h0:l≠[]) (hm:(l.length:Int)≤m):ax l m=0:=by
 have hp:=GB.2 h0
 unfold ax
 rw [jK,jK,FN (by rw [kJ h];decide)]
theorem ek {l:V} {m:Int} (h:ax l m=0):(l.length:Int)≤m:=by
 unfold ax at h
 by_cases h0:l.length=0
 ·rw [FO h0] at h;cases h
 ·rw [FN h0] at h
  by_cases h1:m<l.length
  ·rw [FO h1] at h;cases h
  omega
def kT (p:P2):Prop:=(bI p.1).2=0∧ax p.2 64=0
def kq (p:P2):List (Int×V):=[(6,mH p.1),(12,p.2)]
def kK (p:P2):Int×V:=(48,((kq p).map mP).flatten)
def wj (p:P2):V:=mP (kK p)
def De (s:S3):Int×V:=(48,(((dX s).map kK).map mP).flatten)
def yA (s:S3):V:=mP (De s)
theorem kb:(bI pP).2=0∧(bI ul).2=0∧(bI pO).2=0:=by decide +kernel
theorem qP {k:Int} (h1:1≤k) (h5:k≤5):(∀ c ∈ gq k,32≤c.toNat∧c.toNat<127)∧gq k≠[]∧(gq k).length≤8:=by
 obtain rfl|rfl|rfl|rfl|rfl:=kinds h1 h5<;>decide
theorem iP {s:S3} (h:en s=true):(∀ p ∈ dX s,kT p∧p.1.length=12∧p.2.length≤24)∧(dX s).length≤3:=by
 obtain ⟨h1,h5,hn,h2,hs⟩:=(nc s).1 h
 have hw:=qP h1 h5
 have hn':=kk hn
 have gk:kT (pP,gq s.1)∧(pP,gq s.1).1.length=12∧(pP,gq s.1).2.length≤24:=⟨⟨kb.1,eP hw.1 hw.2.1 (by have:=hw.2.2;show ((gq s.1).length:Int)≤64;omega)⟩,rfl,by have:=hw.2.2;dsimp only;omega⟩
 have gn:kT (pO,s.2.2)∧(pO,s.2.2).1.length=12∧(pO,s.2.2).2.length≤24:=⟨⟨kb.2.2,eP hn'.1 hn'.2.1 (by have:=hn'.2.2;show (s.2.2.length:Int)≤64;omega)⟩,rfl,hn'.2.2⟩
 rw [uj h]
 by_cases hk:s.1=2
 ·have hsp:=kk (h2 hk)
  have gs:kT (ul,s.2.1)∧(ul,s.2.1).1.length=12∧(ul,s.2.1).2.length≤24:=⟨⟨kb.2.1,eP hsp.1 hsp.2.1 (by have:=hsp.2.2;show (s.2.1.length:Int)≤64;omega)⟩,rfl,hsp.2.2⟩
  rw [FO hk]
  refine ⟨fun p hp=>?_,by simp⟩
  rcases Gb.1 hp with rfl|hp
  exact gk
  ·rcases Gb.1 hp with rfl|hp
   exact gs
   ·rw [Gz.1 hp];exact gn
 ·rw [FN hk]
  refine ⟨fun p hp=>?_,by simp⟩
  rcases Gb.1 hp with rfl|hp
  exact gk
  ·rw [Gz.1 hp];exact gn
theorem nl {p:P2} (h:kT p) (h1:p.1.length≤300):(((kq p).map mP).flatten).length≤1000∧(mH p.1).length≤600∧p.2.length≤64:=by
 have h2:=sq p.1
 have h3:=ek h.2
 have h4:=bQ 6 (mH p.1)
 have h5:=bQ 12 p.2
 simp only [kq,mP,Gf,Ho,Hd,H0,G3,FX]
 omega
theorem f4 (b:V) {t:Int} {ls:FI} {fr:List (Int×FI)} {d:V}:aK b ⟨(t,ls)::fr,d,0⟩=⟨(t,ls++[b])::fr,d,0⟩:=rfl
theorem zW {p:P2} (h:kT p) (h1:p.1.length≤300) {s:W8} (hk:s.k=0) (hf:s.fr.length<16):gR (pv p) s=aK (wj p) s:=by
 have ⟨l1,l2,l3⟩:=nl h h1
 have ⟨fr,d,k⟩:=s
 simp only at hk hf
 subst hk
 show ix w2 (ix (v7 p.2 64) (ix (v8 p.1) (ix (w1 48) ⟨fr,d,0⟩)))=_
 rw [nO,oI rfl T hf,DW,h.1,jW rfl T O,f4,DX,h.2,FO rfl,jW rfl T O,f4,qw]
 have e:([]++[cS 6 (mH p.1)]++[cS 12 p.2]:FI).flatten=((kq p).map mP).flatten:=rfl
 rw [ju T T (by rw [e];omega),e]
 rfl
theorem qx:∀ (ps:List P2) {ls:FI} {fr:List (Int×FI)} {d:V},(∀ p ∈ ps,kT p∧p.1.length≤300)→fr.length<15→gR (ps.flatMap pv) ⟨(48,ls)::fr,d,0⟩=⟨(48,ls++ps.map wj)::fr,d,0⟩
 | [],ls,fr,d,_,_=>by simp [gR]
 | p::ps,ls,fr,d,h,hf=>by
  rw [List.flatMap_cons,nP,zW (h p F2).1 (h p F2).2 rfl (by simp only [List.length_cons];omega),f4,qx ps (fun q hq=>h q (F9 _ hq)) hf]
  simp
theorem yz {s:S3} (h:en s=true):(((dX s).map kK).map mP).flatten.length≤4000∧(yA s).length≤4100:=by
 have ⟨h1,h2⟩:=iP h
 have key:∀ ps:List P2,(∀ p ∈ ps,kT p∧p.1.length=12∧p.2.length≤24)→((ps.map kK).map mP).flatten.length≤1010 * ps.length:=fun ps=>by
  induction ps with
  | nil=>intro _;simp
  | cons p ps ih =>
   intro h
   have h3:=ih fun q hq=>h q (F9 _ hq)
   have ⟨h4,h5,_⟩:=h p F2
   have h6:=nl h4 O
   have h7:=bQ 48 ((kq p).map mP).flatten
   have h8:(mP (kK p)).length=(cS 48 ((kq p).map mP).flatten).length:=rfl
   simp only [Gf,Hd,FX,List.length_cons]
   omega
 have h3:=key _ h1
 have h4:=bQ 48 (((dX s).map kK).map mP).flatten
 have h5:(yA s).length=(cS 48 (((dX s).map kK).map mP).flatten).length:=rfl
 omega
theorem yY {s:S3} (h:en s=true) {w:W8} (hk:w.k=0) (hf:w.fr.length<15):vX s w=aK (yA s) w:=by
 have ⟨h1,h2⟩:=iP h
 have ⟨l1,l2⟩:=yz h
 have ⟨fr,d,k⟩:=w
 simp only at hk hf
 subst hk
 unfold vX
 rw [FO h]
 show gR ((dX s).flatMap pv++[w2]) (ix (w1 48) ⟨fr,d,0⟩)=_
 rw [nO,oI rfl T (by dsimp only;omega),nP,qx _ (fun p hp=>⟨(h1 p hp).1,by have:=(h1 p hp).2.1;omega⟩) hf]
 rw [show ∀ X,gR [w2] X=ix w2 X from fun _=>rfl,qw]
 have e:([]++(dX s).map wj:FI).flatten=(((dX s).map kK).map mP).flatten:=by rw [List.nil_append,List.map_map];rfl
 rw [ju T T (by rw [e];omega),e]
 rfl
def Az:W8:=⟨[],[],0⟩
theorem fj {t:Int} (h:-9223372036854775808≤t∧t≤9223372036854775807):dI (w1 t):=⟨h,by simp [w1],by simp [w1]⟩
theorem gu:dI w2:=⟨by simp [w2],by simp [w2],by simp [w2]⟩
theorem vp {t:V} (h:t.length≤300):dI (v8 t):=⟨by simp [v8],by simp [v8],h⟩
theorem vq {t:V} (h:t.length≤300):dI (v7 t 64):=⟨by simp [v7],by simp [v7],h⟩
theorem vt {p:P2} (h1:p.1.length≤300) (h2:p.2.length≤300):∀ v ∈ pv p,dI v:=fun v hv=>by
 simp only [pv,Gb,GA,or_false] at hv
 rcases hv with rfl|rfl|rfl|rfl
 exact fj T
 exact vp h1
 exact vq h2
 exact gu
theorem so:∀ ps:List P2,(ps.flatMap pv).length=4 * ps.length
 | []=>rfl
 | p::ps=>by
  rw [List.flatMap_cons,FX,so ps,List.length_cons]
  show 4+_=_
  omega
theorem wY {i:Nat} {r:R8} {w:W8} (hI:dJ i r w) (s:S3):dJ (i+14) (ra s r) (vX s w):=by
 unfold ra vX
 by_cases h:en s=true
 ·rw [FO h,FO h]
  have ⟨h1,h2⟩:=iP h
  have hl:(kf s).length≤14:=by
   unfold kf
   rw [List.length_cons,FX,so]
   simp only [G2]
   omega
  refine gK (sI (kf s) hI fun v hv=>?_) O
  unfold kf at hv
  rcases Gb.1 hv with rfl|hv
  exact fj T
  ·rcases HE.1 hv with hv|hv
   ·have ⟨p,hp,hv⟩:=List.mem_flatMap.1 hv
    have ⟨_,h3,h4⟩:=h1 p hp
    exact vt O O v hv
   ·rw [Gz.1 hv];exact gu
 ·rw [FN h,FN h]
  exact gK (wZ hI 9) O
end
section
variable {gs:List Nat} [cw gs]
end
section
variable {gs:List Nat} [du gs]
open Go.RowKit Cal
end
section
variable {P:Program} {G:Gh} {o:Oper} {env:List (Nat×CV)} {b0:Nat→CV} {H:List (Option Nat×av)} {K:AS→Prop}
theorem ut {f:FuncId} {v:Operand} {n d:Nat} {fv:Nat→CV} {xs:Array Operand} {ats:Array TypeId} {args:List CV} {Q:CV→List (Option Nat×av)→Prop} {i:Nat} {x0:Option Nat×av} (ho:o.op=.call ⟨.value v,xs,ats⟩) (hv:(⟨env,b0,H⟩:AS).eval v=.fn f n fv) (hc:aU P f=true) (hi:H[i]?=some x0) (hA:AC G.gs P f [x0] args Q)
  (he:iX (xs.toList.map (⟨env,b0,H⟩:AS).eval++(List.range n).map fv) args) (hd:o.dst=some d) (hN:Nat.blt d G.N=true)
  (hK:∀ r H',Q r H'→∃ x,H'=[x]∧K ⟨(d,r)::env,b0,H.set i x⟩):kE P G o ⟨env,b0,H⟩ K :=
 wE ho hv hc hi hA he (ez hd hN) (fun r H' hq=>by have ⟨x,h1,h2⟩:=hK r H' hq;exact ⟨x,h1,by rw [ba hd];exact h2⟩)
end
section
variable {gs:List Nat} [cw gs] [pf gs]
open Go.RowKit Cal
def E0:R8:=⟨[],[],0⟩
theorem Cl:dJ 0 E0 Az:=wX
end
section
open Go.RowKit Cal
structure Fd where
 call:Int
 least:Int
 most:Int
structure V4 where
 n:Int
 t:V
 b:V
 who:S3
def V4.z:V4:=⟨0,[],[],fb⟩
def qJ (f:Fd):Prop:=f.call=0∨((f.call=3∨f.call=4)∧-9223372036854775808≤f.least∧f.most≤9223372036854775807)∨(f.call=6∧0≤f.least∧f.most≤4096)∨(f.call=7∧f.most=24)∨f.call=9
def cn (f:Fd) (v:V4):Prop:=(f.call=0∧v=⟨0,[],[],v.who⟩∧en v.who=true)∨((f.call=3∨f.call=4)∧v=⟨v.n,[],[],fb⟩∧f.least≤v.n∧v.n≤f.most) ∨
 (f.call=6∧v=⟨0,[],v.b,fb⟩∧f.least≤(v.b.length:Nat)∧(v.b.length:Nat)≤f.most)∨(f.call=7∧v=⟨0,v.t,[],fb⟩∧ax v.t 24=0)∨(f.call=9∧v=⟨v.n,[],[],fb⟩∧ln v.n)
def ic (f:Fd) (v:V4):VV:=if f.call=7 then ⟨7,24,false,[],v.t⟩ else ⟨f.call,v.n,false,v.b,[]⟩
def Cs (f:Fd) (v:V4):Int×V:=if f.call=0 then De v.who else ((ah (ic f v)).1,(ah (ic f v)).2.1)
def cW (f:Fd) (v:V4):V:=mP (Cs f v)
def dw (f:Fd) (v:V4) (w:W8):W8:=if f.call=0 then vX v.who w else ix (ic f v) w
def iH (f:Fd) (v:V4) (r:R8):R8:=if f.call=0 then ra v.who r else gc (ic f v) r
def CT (f:Fd):AA:=⟨f.call,0,f.least,f.most⟩
theorem fV {f:Fd} {v:V4} (ho:qJ f) (h:cn f v) (h0:f.call≠0):(3≤f.call∧f.call≤10)∧(ic f v).kind=f.call∧(ah (ic f v)).1=vd (CT f)∧(ah (ic f v)).2.2=0∧(ah (ic f v)).2.1.length≤4096∧saidM (CT f) (ah (ic f v)).2.1=(⟨0,v.n,false,v.b,v.t⟩,0) ∧
  (-9223372036854775808≤(ic f v).n∧(ic f v).n≤9223372036854775807)∧(ic f v).t.length≤300∧(ic f v).b.length≤4096∧v.who=fb:=by
 have ⟨c,least,most⟩:=f
 have ⟨n,t,b,who⟩:=v
 unfold qJ cn at *
 dsimp only at ho h h0
 rcases h with h|⟨hc,hv,h1,h2⟩|⟨hc,hv,h1,h2⟩|⟨hc,hv,h1⟩|⟨hc,hv,h1⟩
 exact absurd h.1 h0
 ·obtain ⟨_,rfl,rfl,rfl⟩:=(V4.mk.injEq _ _ _ _ _ _ _ _).mp hv
  have hb:-9223372036854775808≤n∧n≤9223372036854775807:=by omega
  have hg:=vY hb.1 hb.2
  have hl:=(i9 n hb.1 hb.2).2
  have hr:eU (dW n) least most=(n,0):=by
   unfold eU
   rw [hg,FN (by simp),FN (by dsimp only;omega)]
  rcases hc with rfl|rfl
  ·have e:ah (ic ⟨3,least,most⟩ ⟨n,[],[],fb⟩)=(2,dW n,0):=rfl
   refine ⟨by constructor<;>(dsimp only;omega),rfl,rfl,rfl,by rw [e];dsimp only;omega,?_,hb,by simp [ic],by simp [ic],rfl⟩
   rw [e]
   show (vN (eU (dW n) least most).1,(eU (dW n) least most).2)=_
   rw [hr];rfl
  ·have e:ah (ic ⟨4,least,most⟩ ⟨n,[],[],fb⟩)=(10,dW n,0):=rfl
   refine ⟨by constructor<;>(dsimp only;omega),rfl,rfl,rfl,by rw [e];dsimp only;omega,?_,hb,by simp [ic],by simp [ic],rfl⟩
   rw [e]
   show (vN (eU (dW n) least most).1,(eU (dW n) least most).2)=_
   rw [hr];rfl
 ·obtain ⟨rfl,rfl,_,rfl⟩:=(V4.mk.injEq _ _ _ _ _ _ _ _).mp hv
  subst hc
  have e:ah (ic ⟨6,least,most⟩ ⟨0,[],b,fb⟩)=(4,b,0):=rfl
  have hl:b.length≤4096:=by omega
  refine ⟨by constructor<;>(dsimp only;omega),rfl,rfl,rfl,by rw [e];exact hl,?_,by show (-9223372036854775808:Int)≤0∧(0:Int)≤9223372036854775807;decide,by simp [ic],hl,rfl⟩
  rw [e]
  show (vB (wt least most b).1,(wt least most b).2)=_
  unfold wt
  rw [jK,jK]
  rfl
 ·obtain ⟨rfl,_,rfl,rfl⟩:=(V4.mk.injEq _ _ _ _ _ _ _ _).mp hv
  subst hc
  have hm:most=24:=by omega
  subst hm
  have hl:=ek h1
  have e:ah (ic ⟨7,least,24⟩ ⟨0,t,[],fb⟩)=(12,t,0):=by
   show ((12:Int),(if ax t 24=0 then t else []),ax t 24)=_
   rw [h1,FO rfl]
  refine ⟨by constructor<;>(dsimp only;omega),rfl,by rw [e];rfl,by rw [e],by rw [e];dsimp only;omega,?_,by show (-9223372036854775808:Int)≤24∧(24:Int)≤9223372036854775807;decide,by show t.length≤300;omega,by simp [ic],rfl⟩
  rw [e]
  show (vT (if ax t 24=0 then t else []),ax t 24)=_
  rw [h1,FO rfl];rfl
 ·obtain ⟨_,rfl,rfl,rfl⟩:=(V4.mk.injEq _ _ _ _ _ _ _ _).mp hv
  subst hc
  have ho6:eZ n=rk n:=by unfold eZ;rw [FO h1]
  have hq:=np h1
  have e:ah (ic ⟨9,least,most⟩ ⟨n,[],[],fb⟩)=(24,bh (eZ n),0):=by
   show ((24:Int),(if ln n then bh (eZ n) else []),sv n)=_
   unfold sv
   rw [FO h1,FO h1]
  refine ⟨by constructor<;>(dsimp only;omega),rfl,by rw [e];rfl,by rw [e],by rw [e];exact FS rfl,?_,by have h1':=h1;unfold ln at h1';show _≤n∧n≤_;omega,by simp [ic],by simp [ic],rfl⟩
  rw [e]
  show (vN (zF (bh (eZ n))),zG (bh (eZ n)))=_
  rw [ho6,(qf hq.1).1,(qf hq.1).2,hq.2];rfl
theorem jr {f:Fd} {v:V4} (ho:qJ f) (h:cn f v) (h0:f.call≠0):cW f v=cS (vd (CT f)) (ah (ic f v)).2.1:=by
 unfold cW Cs mP
 rw [FN h0]
 dsimp only
 rw [(fV ho h h0).2.2.1]
theorem xC {f:Fd} {v:V4} (h0:f.call=0):cW f v=yA v.who:=by
 unfold cW Cs
 rw [FO h0];rfl
theorem xa {f:Fd} {v:V4} (h:cn f v) (h0:f.call=0):v=⟨0,[],[],v.who⟩∧en v.who=true:=by
 unfold cn at h
 rcases h with h|h|h|h|h
 exact h.2
 all_goals (exfalso;omega)
theorem vZ {f:Fd} {v:V4} (ho:qJ f) (h:cn f v) {w:W8} (hk:w.k=0) (hf:w.fr.length<15):dw f v w=aK (cW f v) w:=by
 unfold dw
 by_cases h0:f.call=0
 ·rw [FO h0,xC h0,yY (xa h h0).2 hk hf]
 ·have ⟨b1,b2,b3,b4,b5,_⟩:=fV ho h h0
  have ht:=Eo (v:=ic f v) (by rw [b2];exact b1)
  rw [FN h0,jr ho h h0,sU (by rw [b2];exact b1),b4,jW hk ht.1 O,b3]
theorem cq {f:Fd} {v:V4} (ho:qJ f) (h:cn f v) {i:Nat} {r:R8} {w:W8} (hI:dJ i r w):dJ (i+14) (iH f v r) (dw f v w):=by
 unfold iH dw
 by_cases h0:f.call=0
 ·rw [FO h0,FO h0]
  exact wY hI v.who
 ·have ⟨b1,b2,b3,b4,b5,b6,b7,b8,b9,b10⟩:=fV ho h h0
  rw [FN h0,FN h0]
  exact zy hI b7 b8 (by rw [b2];exact b1) T O
end
def dZ:V:=[48,49,50,51,52,53,54,55,56,57,97,98,99,100,101,102]
def bG (l:V):Bool:=decide (l.length=32) && l.all fun c=>decide (0≤Lib.indexByte dZ c)
theorem jl {l:V} {i:Nat} (hi:i<l.length) (h:Lib.indexByte dZ (l.getD i 0)<0):bG l=false:=by
 cases e:bG l with
 | false=>rfl
 | true =>
  simp only [bG,FK,F5,FT] at e
  have:=e.2 (l.getD i 0) (by simp [List.getD,hi])
  omega
theorem oV (c:UInt8):Lib.indexByte dZ c<16:=by
 unfold Lib.indexByte dZ
 simp only [Lib.indexByte]
 repeat (first|omega|split)
def tH (c:UInt8):Int:=IntKind.u8.wrap (((c.toNat:Nat):Int) * 2 ^ (4:Int).toNat)
def CP (a b:Int):Int:=IntKind.u8.wrap (BitVec.ofInt (IntKind.bits .u8) a ||| BitVec.ofInt (IntKind.bits .u8) b).toNat
def rr (c:UInt8) (n:Int):UInt8:=UInt8.ofNat (CP (tH c) n).toNat
theorem wz (c:UInt8) (n:Int):CP (tH c) n=((rr c n).toNat:Nat):=by
 have h:0≤CP (tH c) n∧CP (tH c) n<256:=by unfold CP;rw [IntKind.wrap_u8];omega
 unfold rr
 rw [GG]
 omega
theorem tm (j:Nat):(Value.int .u8 0).cells[j % (Value.int .u8 0).cells.size]! = .int .u8 0:=by
 have:j % (Value.int .u8 0).cells.size=0:=Nat.mod_one j
 rw [this];rfl
theorem A9 (j:Nat):J (.c (.int .u8 0)) (bX (List.replicate 16 0) j):=J.of_eq (by
 have:(List.replicate 16 (0:UInt8)).getD j 0=0:=by rw [FJ,G7];split<;>rfl
 unfold bX
 rw [this];rfl)
theorem pj {X:V} {o:Nat} {c:UInt8} {z:Int} (hz:z=(c.toNat:Nat)) (ho:o<X.length) (j:Nat):J (jG (bX X) o (List.map CV.c (Value.int .u8 z).cells.toList) j) (bX (X.set o c) j):=by
 rw [fg,show (List.map CV.c (Value.int .u8 z).cells.toList).length=1 from rfl]
 by_cases e:j=o
 ·subst e
  rw [jP,HH]
  have:(X.set j c).getD j 0=c:=by simp [List.getD,ho]
  unfold bX
  rw [this,← hz]
  exact cZ
 ·rw [jK]
  refine J.of_eq ?_
  unfold bX
  simp [List.getD,Ne.symm e]
def I (n:Nat):UInt8:=if n<10 then UInt8.ofNat (48+n) else UInt8.ofNat (87+n)
def hv (c:UInt8):Nat:=(Lib.indexByte dZ c).toNat
def rx (c:UInt8):Bool:=decide (0≤Lib.indexByte dZ c)
theorem Cn:∀ n:Fin 256,rx (UInt8.ofNat n.val)=true→hv (UInt8.ofNat n.val)<16∧I (hv (UInt8.ofNat n.val))=UInt8.ofNat n.val:=by decide +kernel
theorem AW {c:UInt8} (h:rx c=true):hv c<16∧I (hv c)=c:=by
 have h2:=Cn ⟨c.toNat,c.toNat_lt⟩
 have e:UInt8.ofNat (⟨c.toNat,c.toNat_lt⟩:Fin 256).val=c:=UInt8.ofNat_toNat
 rw [e] at h2
 exact h2 h
def DQ (c:UInt8):V:=[I (c.toNat / 16),I (c.toNat % 16)]
def xi (b:V):V:=(b.map DQ).flatten
def bx (a b:UInt8):UInt8:=UInt8.ofNat (16 * hv a+hv b)
def dv:V→V
 | a::b::r=>bx a b::dv r
 | _=>[]
theorem gL:∀ s:V,(dv s).length=s.length / 2
 | []=>rfl
 | [_]=>by simp [dv]
 | a::b::r=>by
  show (dv r).length+1=_
  rw [gL r]
  simp only [List.length_cons]
  omega
theorem l6:∀ (s:V) (j:Nat),j<s.length / 2→(dv s).getD j 0=bx (s.getD (2 * j) 0) (s.getD (2 * j+1) 0)
 | [],j,h=>absurd h (F3 j)
 | [_],j,h=>by simp at h
 | a::b::r,0,h=>rfl
 | a::b::r,j+1,h=>by
  show (dv r).getD j 0=_
  rw [l6 r j (by simp only [List.length_cons] at h;omega)]
  have e1:2 * (j+1)=2 * j+1+1:=by omega
  rw [e1]
  rfl
theorem nI:∀ s:V,s.length % 2=0→s.all rx=true→xi (dv s)=s
 | [],_,_=>rfl
 | [_],h,_=>by simp at h
 | a::b::r,h,h2=>by
  simp only [Ha,FK] at h2
  have ⟨ha,hb,hr⟩:=h2
  have ⟨a1,a2⟩:=AW ha
  have ⟨b1,b2⟩:=AW hb
  show DQ (bx a b)++xi (dv r)=_
  rw [nI r (by simp only [List.length_cons] at h;omega) hr]
  unfold DQ bx
  rw [GG,show (16 * hv a+hv b) % 2 ^ 8 / 16=hv a by omega,show (16 * hv a+hv b) % 2 ^ 8 % 16=hv b by omega,a2,b2]
  rfl
theorem ot {X:V} {k:Nat} {v:UInt8} (j:Nat) (hk:k<X.length):(X.set k v).getD j 0=if j=k then v else X.getD j 0:=by
 by_cases e:j=k
 ·subst e;simp [List.getD,hk]
 ·rw [FN e];simp [List.getD,Ne.symm e]
theorem Bv (n j:Nat):(List.replicate n (0:UInt8)).getD j 0=0:=by
 rw [FJ,G7];split<;>rfl
theorem ze:∀ a n:Fin 16,rr (UInt8.ofNat a.val) (n.val:Int)=UInt8.ofNat (16 * a.val+n.val):=by decide +kernel
theorem wy {a n:Nat} (ha:a<16) (hn:n<16):rr (UInt8.ofNat a) (n:Int)=UInt8.ofNat (16 * a+n):=ze ⟨a,ha⟩ ⟨n,hn⟩
theorem w7 {c:UInt8} (h:0≤Lib.indexByte dZ c):Lib.indexByte dZ c=((hv c:Nat):Int)∧hv c<16:=by
 have:=oV c
 unfold hv
 omega
def mW (l X:V) (i:Nat):Prop :=
 X.length=l.length / 2∧(∀ j,j<i / 2→X.getD j 0=bx (l.getD (2 * j) 0) (l.getD (2 * j+1) 0))∧(i % 2=1→X.getD (i / 2) 0=UInt8.ofNat (hv (l.getD (i-1) 0)))∧∀ j,(i+1) / 2≤j→X.getD j 0=0
theorem mW.start (l:V):mW l (List.replicate (l.length / 2) 0) 0 :=
 ⟨List.length_replicate,fun j hj=>absurd hj (F3 j),fun h=>by omega,fun j _=>Bv _ j⟩
theorem mW.step {l X:V} {i:Nat} (h:mW l X i) (hi:i<l.length) (he:l.length % 2=0) (I:∀ j,j≤i→0≤Lib.indexByte dZ (l.getD j 0)):mW l (X.set (i / 2) (rr (X.getD (i / 2) 0) (Lib.indexByte dZ (l.getD i 0)))) (i+1):=by
 have ⟨h1,h2,h3,h4⟩:=h
 obtain ⟨n1,n2⟩:=w7 (I i (FQ _))
 have hk:i / 2<X.length:=by omega
 rw [n1]
 refine ⟨by rw [Gg,h1],fun j hj=>?_,fun ho=>?_,fun j hj=>?_⟩
 ·rw [ot j hk]
  by_cases e:j=i / 2
  ·rw [FO e]
   have ho:i % 2=1:=by omega
   obtain ⟨m1,m2⟩:=w7 (I (i-1) O)
   rw [h3 ho,wy m2 n2,show 2 * j=i-1 by omega,show i-1+1=i by omega]
   rfl
  ·rw [FN e];exact h2 j O
 ·rw [ot _ hk,jP,h4 (i / 2) O]
  have:=wy (a:=0) O n2
  rw [show i+1-1=i by omega]
  simpa using this
 ·rw [ot j hk,jK]
  exact h4 j O
theorem mW.done {l X:V} {i:Nat} (h:mW l X i) (hi:i=l.length) (he:l.length % 2=0):X=dv l:=by
 have ⟨h1,h2,h3,h4⟩:=h
 have hl:=gL l
 refine Hf O fun j a b=>?_
 have e1:=h2 j O
 have e2:=l6 l j O
 rw [← e2] at e1
 simpa [List.getD,a,b] using e1
theorem zY:∀ c:Fin 256,Lib.indexByte dZ (UInt8.ofNat c.val)=if 48≤c.val∧c.val≤57 then (c.val:Int)-48 else if 97≤c.val∧c.val≤102 then (c.val:Int)-97+10 else -1:=by decide +kernel
theorem Cy (c:UInt8):Lib.indexByte dZ c=if 48≤c.toNat∧c.toNat≤57 then (c.toNat:Int)-48 else if 97≤c.toNat∧c.toNat≤102 then (c.toNat:Int)-97+10 else -1:=by
 have h:=zY ⟨c.toNat,c.toNat_lt⟩
 have e:UInt8.ofNat (⟨c.toNat,c.toNat_lt⟩:Fin 256).val=c:=UInt8.ofNat_toNat
 rw [e] at h
 exact h
section
open Go.RowKit Cal
structure la where
 se:Int
 iss:V
 ge:Int
 who:S3
 nb:Int
 na:Int
 ky:V
 us:Int
 al:FI
def fa (x n y:Int):Bool:=decide (x≤n) && decide (n≤y)
def ee (n:Int):V4:=⟨n,[],[],fb⟩
def tz (b:V):V4:=⟨0,[],b,fb⟩
def EX (s:S3):V4:=⟨0,[],[],s⟩
def uH:Fd:=⟨3,1,1099511627776⟩
def rG:Fd:=⟨6,16,16⟩
def ye:Fd:=⟨3,1,1048576⟩
def DU:Fd:=⟨0,0,0⟩
def lq:Fd:=⟨9,0,0⟩
def yu (t:V):VV:=⟨7,64,false,[],t⟩
theorem su:qJ uH:=by unfold qJ uH;decide
theorem pL:qJ rG:=by unfold qJ rG;decide
theorem pM:qJ ye:=by unfold qJ ye;decide
theorem lR:qJ lq:=by unfold qJ lq;decide
structure EV (c:la):Prop where
 se:cn uH (ee c.se)
 iss:cn rG (tz (dv c.iss))
 ge:cn ye (ee c.ge)
 who:cn DU (EX c.who)
 nb:cn lq (ee c.nb)
 na:cn lq (ee c.na)
 ky:cn rG (tz (dv c.ky))
 us:1≤c.us∧c.us≤15
 n8:c.al.length≤8
 al:∀ t ∈ c.al,ax t 64=0
 hi:c.iss.length=32∧c.iss.all rx=true
 hk:c.ky.length=32∧c.ky.all rx=true
theorem nA {l:V} (h:bG l=true):l.length=32∧l.all rx=true:=by
 unfold bG at h
 rw [FK,FT] at h
 exact h
def mO (t:V):V:=cS 12 t
def bE (c:la):V:=cW rG (tz (dv c.ky))
def bF (c:la):V:=cS 3 (oX c.us.toNat)
def bM (c:la):V:=cW lq (ee c.nb)++cW lq (ee c.na)
def bT (c:la):V:=(c.al.map mO).flatten
def r7 (c:la):V:=cS 48 (bT c)++[]
def r6 (c:la):V:=bF c++r7 c
def r5 (c:la):V:=bE c++r6 c
def r4 (c:la):V:=cS 48 (bM c)++r5 c
def r3 (c:la):V:=cW DU (EX c.who)++r4 c
def r2 (c:la):V:=cW ye (ee c.ge)++r3 c
def r1 (c:la):V:=cW rG (tz (dv c.iss))++r2 c
def r0 (c:la):V:=cW uH (ee c.se)++r1 c
section
variable {c:la}
theorem xB {t:V} (h:ax t 64=0):(mO t).length≤80∧0<(mO t).length:=by
 have h1:=ek h
 have h2:=bQ 12 t
 have h3:=zQ (12,t)
 refine ⟨?_,h3⟩
 unfold mO
 omega
theorem i6 {f:Fd} {v:V4} (ho:qJ f) (h:cn f v) {t:Int} {ls:FI} {fr:List (Int×FI)} {d:V} (hl:fr.length<14):dw f v ⟨(t,ls)::fr,d,0⟩=⟨(t,ls++[cW f v])::fr,d,0⟩:=by
 rw [vZ ho h rfl (by rw [List.length_cons];omega),f4]
theorem wo {t:Int} {ls:FI} {fr:List (Int×FI)} {d:V} (hl:fr.length<14):bq 48 ⟨(t,ls)::fr,d,0⟩=⟨(48,[])::(t,ls)::fr,d,0⟩:=by
 unfold bq
 rw [FN (by simp),FN T,FN (by rw [List.length_cons];omega)]
theorem Bk {x:V} (h:ax x 64=0) {t:Int} {ls:FI} {fr:List (Int×FI)} {d:V}:ix (yu x) ⟨(t,ls)::fr,d,0⟩=⟨(t,ls++[mO x])::fr,d,0⟩:=by
 rw [sU (v:=yu x) (by show (3:Int)≤7∧(7:Int)≤10;decide)]
 have e:ah (yu x)=(12,x,0):=by
  show ((12:Int),(if ax x 64=0 then x else []),ax x 64)=_
  rw [h,FO rfl]
 have hl:=ek h
 rw [e,jW rfl (show bW 12=true by decide) (by dsimp only;omega),f4]
 rfl
end
end
section
open Go.RowKit Cal
abbrev N4:=Int×V×Int×Int
abbrev B3:=Int×V×List N4
def ae:N4:=(0,[],0,0)
def gU:B3:=(0,[],[])
def aw (a:N4):Bool:=bG a.2.1 && fa 1 a.1 1048576 && (fa 0 a.2.2.1 253402300799 && fa a.2.2.1 a.2.2.2 253402300799)
def Ag (l:List N4) (i:Nat):Bool:=(List.range i).all fun k=>decide ((l.getD k ae).1<(l.getD i ae).1) && decide ((l.getD k ae).2.1≠(l.getD i ae).2.1)
def fQ (l:List N4) (i:Nat):Bool:=aw (l.getD i ae) && Ag l i
def dh (l:List N4):Nat→Bool
 | 0=>true
 | i+1=>dh l i && fQ l i
def aq (b:B3):Bool:=fa 1 b.1 1099511627776 && fS b.2.1 && decide (1≤b.2.2.length) && decide (b.2.2.length≤8) && dh b.2.2 b.2.2.length
theorem il {l:List N4} {i:Nat}:Ag l i=true↔∀ k,k<i→(l.getD k ae).1<(l.getD i ae).1∧(l.getD k ae).2.1≠(l.getD i ae).2.1:=by
 unfold Ag
 simp only [F5,GD,FK,FT]
theorem gM {l:List N4}:∀ {i:Nat},dh l i=true→∀ j,j<i→fQ l j=true
 | 0,_,j,hj=>absurd hj (F3 j)
 | i+1,h,j,hj=>by
  unfold dh at h
  rw [FK] at h
  by_cases e:j=i
  ·rw [e];exact h.2
  exact gM h.1 j O
theorem cQ {l:List N4} {j:Nat} (hj:fQ l j=false):∀ {i:Nat},j<i→dh l i=false
 | 0,h=>absurd h (F3 j)
 | i+1,h=>by
  unfold dh
  by_cases e:j=i
  ·rw [← e,hj,Gj]
  ·rw [cQ hj (show j<i by omega),Bool.false_and]
theorem xU {l:List N4} {i:Nat} (h:dh l i=true) (hk:∀ k,k<i→(l.getD k ae).2.1≠(l.getD i ae).2.1) (hp:i=0∨(l.getD (i-1) ae).1<(l.getD i ae).1):Ag l i=true:=by
 rw [il]
 intro k hki
 refine ⟨?_,hk k hki⟩
 rcases hp with hp|hp
 omega
 ·by_cases e:k=i-1
  ·rw [e];exact hp
  ·have ho:=gM h (i-1) O
   unfold fQ at ho
   rw [FK] at ho
   have:=(il.1 ho.2 k O).1
   omega
def cK (g:Int) (o:List N4):Nat→Nat
 | 0=>0
 | k+1=>if g<(o.getD k ae).1 then cK g o k else k+1
def kp (o:List N4) (a:N4):List N4:=o.take (cK a.1 o o.length)++a::o.drop (cK a.1 o o.length)
def af (l:List N4):List N4:=l.foldl kp []
theorem wb (g:Int) (o:List N4):∀ k,cK g o k≤k
 | 0=>FQ _
 | k+1=>by
  unfold cK
  split
  exact Nat.le_succ_of_le (wb g o k)
  exact FQ _
theorem wc (g:Int) (o:List N4):∀ k j,cK g o k≤j→j<k→g<(o.getD j ae).1
 | 0,j,_,h=>absurd h (F3 j)
 | k+1,j,h1,h2=>by
  unfold cK at h1
  split at h1
  ·rename_i hg
   by_cases e:j=k
   ·rw [e];exact hg
   exact wc g o k j h1 O
  omega
theorem wa (g:Int) (o:List N4):∀ k,0<cK g o k→(o.getD (cK g o k-1) ae).1≤g
 | 0,h=>absurd h (Nat.lt_irrefl 0)
 | k+1,h=>by
  unfold cK at h ⊢
  split
  ·rename_i hg
   rw [FO hg] at h
   exact wa g o k h
  ·rename_i hg
   rw [GY]
   omega
theorem we {g:Int} {o:List N4}:∀ {k j:Nat},j≤k→(∀ i,j≤i→i<k→g<(o.getD i ae).1)→(j=0∨(o.getD (j-1) ae).1≤g)→cK g o k=j
 | 0,j,hj,_,_=>by unfold cK;omega
 | k+1,j,hj,h1,h2=>by
  unfold cK
  by_cases e:j=k+1
  ·subst e
   rw [GY] at h2
   rw [jK]
  ·rw [FO (h1 k O O),we O (fun i a b=>h1 i a O) h2]
theorem uA (o:List N4) (a:N4):(kp o a).Perm (o++[a]):=by
 unfold kp
 refine List.perm_middle.trans ?_
 rw [Hs]
 exact (List.perm_append_singleton a o).symm
def n7 (l:List N4):Prop:=l.Pairwise fun a b=>a.1≤b.1
theorem uV {l:List N4} (h:n7 l) {i j:Nat} (hij:i<j) (hj:j<l.length):(l.getD i ae).1≤(l.getD j ae).1:=by
 have:=Hg.1 h i j O hj hij
 simpa [List.getD,hj,show i<l.length by omega] using this
theorem qb {o:List N4} (h:n7 o) (a:N4):n7 (kp o a):=by
 have hp:=wb a.1 o o.length
 have hh:=wc a.1 o o.length
 have hl:=wa a.1 o o.length
 have ht:∀ x ∈ o.take (cK a.1 o o.length),x.1≤a.1:=fun x I=>by
  obtain ⟨j,hj,rfl⟩:=Gw I
  rw [F6] at hj
  rw [List.getElem_take]
  have h0:=hl O
  by_cases e:j=cK a.1 o o.length-1
  ·have e2:o.getD (cK a.1 o o.length-1) ae=o[j]:=by simp [List.getD,← e,show j<o.length by omega]
   rw [e2] at h0
   exact h0
  ·have:=uV h (i:=j) (j:=cK a.1 o o.length-1) O O
   have e2:o.getD j ae=o[j]:=by simp [List.getD,show j<o.length by omega]
   rw [e2] at this
   omega
 have hd:∀ x ∈ o.drop (cK a.1 o o.length),a.1≤x.1:=fun x I=>by
  obtain ⟨j,hj,rfl⟩:=Gw I
  rw [Gk] at hj
  rw [List.getElem_drop]
  have:=hh (cK a.1 o o.length+j) O O
  have e2:o.getD (cK a.1 o o.length+j) ae=o[cK a.1 o o.length+j]:=by simp [List.getD,show cK a.1 o o.length+j<o.length by omega]
  rw [e2] at this
  omega
 unfold n7 kp
 rw [List.pairwise_append,HL]
 refine ⟨h.sublist (List.take_sublist _ _),⟨hd,h.sublist (List.drop_sublist _ _)⟩,fun x I y hy=>?_⟩
 have hx':=ht x I
 rcases Gb.1 hy with rfl|hy
 exact hx'
 exact Int.le_trans hx' (hd y hy)
theorem lI (l:List N4) (a:N4):af (l++[a])=kp (af l) a:=by unfold af;rw [HT];rfl
theorem DS (l:List N4):∀ o,n7 o→n7 (l.foldl kp o)∧(l.foldl kp o).Perm (o++l):=by
 induction l with
 | nil=>intro o h;exact ⟨h,by rw [G3];exact List.Perm.refl _⟩
 | cons a l ih =>
  intro o h
  obtain ⟨h1,h2⟩:=ih (kp o a) (qb h a)
  refine ⟨h1,h2.trans ?_⟩
  rw [show o++a::l=(o++[a])++l by simp]
  exact (uA o a).append_right l
theorem lJ (l:List N4):(af l).Perm l:=(DS l [] List.Pairwise.nil).2
theorem fi (l:List N4):(af l).length=l.length:=(lJ l).length_eq
def A6 (l:List N4):Prop:=l.Pairwise fun a b=>a.1<b.1
theorem rB {l:List N4} (h:dh l l.length=true):A6 l:=by
 refine Hg.2 fun i j hi hj hij=>?_
 have ho:=gM h j hj
 unfold fQ at ho
 rw [FK] at ho
 have:=(il.1 ho.2 i hij).1
 simpa [List.getD,hi,hj] using this
def EZ:R8:=gc (w1 48) E0
section
variable {c:la}
theorem vr {x:V} (h:ax x 64=0):dI (yu x):=⟨by simp [yu],by simp [yu],by have:=ek h;show x.length≤300;omega⟩
theorem AV:dJ 1 EZ (bq 48 Az):=by
 have:=fU Cl (fj (t:=48) T)
 rw [nO] at this
 exact this
def s1 (c:la):FI:=[[]]++[r1 c]
def s2 (c:la):FI:=[[]]++[r2 c]
def s3 (c:la):FI:=[[]]++[r3 c]
def s4 (c:la):FI:=[[]]++[r4 c]
def m0 (c:la):FI:=[[]]++[r5 c]++[bM c]
def m1 (c:la):FI:=[[]]++[r5 c]++[cW lq (ee c.na)++[]]
def m2 (c:la):FI:=[[]]++[r5 c]++[[]]
def s5 (c:la):FI:=[[]]++[r5 c]
end
end
theorem nC {l:V} (hl:l.length=32) (h:∀ j,j<l.length→0≤Lib.indexByte dZ (l.getD j 0)):bG l=true:=by
 simp only [bG,FK,F5,FT]
 refine ⟨hl,fun c hc=>?_⟩
 obtain ⟨j,hj,rfl⟩:=Gw hc
 have:=h j hj
 simpa [List.getD,hj] using this
theorem nB {l:V} (h:l.length≠32):bG l=false:=by unfold bG;rw [Gn h];rfl
theorem w8 {l:V} (h:bG l=true):l.length=32∧l.all rx=true:=by
 unfold bG at h
 rw [FK,FT] at h
 exact h
theorem sy {gs:List Nat} [du gs] (l:V):c4 gs prog 99 [bi l] (.tup 2 (fl [dL (if bG l=true then dv l else []),.err (if bG l=true then 0 else 4)])):=by
 refine ag 39 func99 fun _ _ _ _=>?_;refine U 52400001675116 ?_;refine aX (fun h99=>?_) fun h99=>?_
 ·refine oU ?_;refine pZ (.rd 0 (.rd 1 (.rd 2 .done))) ?_;refine U 80003000700088070704000000 ?_
  have hb:bG l=false:=nB O
  rw [hb]
  exact cT (J.nilS' rfl) (J.errN rfl)
 refine U 6810 ?_
 refine ay (Cw (F:=bX (List.replicate 16 0)) rfl rfl rfl (show (16:Int)=((16:Nat):Int) from rfl) (show (16:Int)=((16:Nat):Int) from rfl) (by omega) underlying58 tE kV u3 (by omega) (by omega) (fun j hj=>by rw [tm j];exact A9 j) rfl rfl (fun p1=>?_))
 refine U 20514000016751 ?_
 have h32:l.length=32:=by omega
 refine aG (α:=Nat×V) [2,3,5,6,14,15,16,17,18,19,20,21,22,23,24,25,26,27,28,29,30,31,32,33,34,35,36,37] (fun (i,X)=>[(14,.c (.int .i64 (i:Nat)))]) (fun (i,X)=>[(p1,.blk 16 (bX X))]) (fun (i,X)=>i≤l.length∧mW l X i∧∀ j,j<i→0≤Lib.indexByte dZ (l.getD j 0)) (fun (i,X)=>l.length-i) ((0,List.replicate 16 0)) ?_ (fun _=>rfl) ?_ ?_ ?_
 exact ⟨F4 _,(by have:=mW.start l;rw [show l.length / 2=16 by omega] at this;exact this),fun j hj=>absurd hj (F3 j)⟩
 exact .cons cZ .nil
 exact .same .nil
 ·rintro ⟨i,X⟩ ⟨(hi:i≤l.length),(hS:mW l X i),he⟩
  have hhx:=oV (l.getD i 0)
  have hXl:X.length=16:=by rw [hS.1];omega
  refine U 7526 ?_;refine aaa (fun h103=>?_) fun h103=>?_
  ·refine U 84000200020006000 ?_
   have hil:i=l.length:=by omega
   have hXe:=hS.done hil O
   refine jE (freeze 0 rfl) ?_;refine jE (jI 4 (fun k=>fun _=>bX X k) rfl rfl O (fun a b ha hb=>J.of_eq (by rw [Nat.zero_add];congr 1;omega))) ?_;refine U 8000700051116 ?_
   have hall:=nC h32 (fun j hj=>he j O)
   rw [FO hall,FO hall]
   exact cT (J.rs (by rw [gL];omega) fun i j hi hj=>J.of_eq (by rw [hXe])) (J.nilE rfl)
  refine U 800000001165116207810 ?_
  refine ay (aD (sL dZ (l.getD i 0)) ?_)
  refine U 5216751 ?_;refine aX (fun h105=>?_) fun h105=>?_
  ·refine oU ?_;refine pZ (.rd 0 (.rd 1 (.rd 2 .done))) ?_;refine U 8000300050003000300050003000700088070704000000 ?_
   have hb:bG l=false:=jl (i:=i) O O
   rw [hb]
   exact cT (J.nilS' rfl) (J.errN rfl)
  refine U 6000001160000011200810 ?_;refine jq (iu (i:=(i / 2)) (hz:=by omega)) ?_;refine U 50 ?_;refine jq (Bx rfl rfl rfl (by omega) ((tH (X.getD (i / 2) 0))) (rfl)) ?_;refine U 8000001 ?_;refine jq (Di rfl rfl rfl ((CP (tH (X.getD (i / 2) 0)) (Lib.indexByte dZ (l.getD i 0)))) (rfl)) ?_;refine jq (iu (i:=(i / 2)) (hz:=by omega)) ?_
  refine aL (ak 1 (bX (X.set (i / 2) (rr (X.getD (i / 2) 0) (Lib.indexByte dZ (l.getD i 0))))) ?_ ?_)
  exact (fun j hj=>pj (wz _ _) O j)
  refine U 851920084005 ?_
  refine aH ((i+1,X.set (i / 2) (rr (X.getD (i / 2) 0) (Lib.indexByte dZ (l.getD i 0))))) ?_ ?_ (h5:=?_) (h7:=?_)
  ·have I:∀ j,j≤i→0≤Lib.indexByte dZ (l.getD j 0):=fun j hj=>by
    by_cases e:j=i
    ·subst e;omega
    exact he j O
   exact ⟨by omega,hS.step O O I,fun j hj=>I j O⟩
  show l.length-(i+1)<l.length-i;omega
  exact .cons (cI O) .nil
  exact .same .nil
def mw (l X:V) (i:Nat):Prop :=
 X.length=(i+1) / 2∧(∀ j,j<i / 2→X.getD j 0=bx (l.getD (2 * j) 0) (l.getD (2 * j+1) 0))∧(i % 2=1→X.getD (i / 2) 0=UInt8.ofNat (16 * hv (l.getD (i-1) 0)))
theorem mw.push {l X:V} {i:Nat} (h:mw l X i) (he:i % 2=0):mw l (X++[UInt8.ofNat (16 * hv (l.getD i 0))]) (i+1):=by
 have ⟨h1,h2,h3⟩:=h
 refine ⟨by rw [FX,h1,G2];omega,fun j hj=>?_,fun _=>?_⟩
 ·rw [← h2 j O]
  simp [List.getD,FR (show j<X.length by omega)]
 ·rw [show (i+1) / 2=X.length by omega,show i+1-1=i by omega]
  simp [List.getD]
theorem mw.put {l X:V} {i:Nat} (h:mw l X i) (he:i % 2=1):mw l (X.set (i / 2) (bx (l.getD (i-1) 0) (l.getD i 0))) (i+1):=by
 have ⟨h1,h2,h3⟩:=h
 refine ⟨by rw [Gg,h1];omega,fun j hj=>?_,fun h=>by omega⟩
 rw [ot j O]
 by_cases e:j=i / 2
 ·rw [FO e,show 2 * j=i-1 by omega,show i-1+1=i by omega]
 ·rw [FN e];exact h2 j O
theorem mw.done {l X:V} (h:mw l X l.length) (he:l.length=32):X=dv l:=by
 have ⟨h1,h2,_⟩:=h
 have hl:=gL l
 refine Hf O fun j a b=>?_
 have e1:=h2 j O
 have e2:=l6 l j O
 rw [← e2] at e1
 simpa [List.getD,a,b] using e1
theorem Cm (c:UInt8):(48≤c.toNat∧c.toNat≤57→((hv c:Nat):Int)=(c.toNat:Int)-48∧0≤Lib.indexByte dZ c)∧(97≤c.toNat∧c.toNat≤102→((hv c:Nat):Int)=(c.toNat:Int)-97+10∧0≤Lib.indexByte dZ c)∧(¬ (48≤c.toNat∧c.toNat≤57)→¬ (97≤c.toNat∧c.toNat≤102)→Lib.indexByte dZ c<0):=by
 have hd:=Cy c
 unfold hv
 refine ⟨fun h=>?_,fun h=>?_,fun h1 h2=>?_⟩
 ·rw [FO h] at hd;omega
 ·rw [jK,FO h] at hd;omega
 ·rw [FN h1,FN h2] at hd;omega
theorem sM (c:UInt8):hv c<16:=by have:=oV c;unfold hv;omega
theorem oL {n:Nat} (h:n<256):((UInt8.ofNat n).toNat:Nat)=n:=by rw [GG];omega
theorem yI {gs:List Nat} (l:V) (hl:l.length≤1000000):c4 gs prog 107 [bi l] (.tup 2 (fl [if bG l=true then dL (dv l) else .top,.c (.bool (bG l))])):=by
 refine ag 59 func107 fun _ _ _ _=>?_;refine U 65116 ?_
 refine ay (bD 0 1 kV fun p1=>?_)
 refine U 20516751 ?_;refine aG (α:=Nat×V×Option Nat) [2,3,4,5,6,7,9,10,11,12,13,14,15,16,17,18,19,20,21,22,23,24,25,26,27,28,29,30,31,32,33,34,35,36,37,38,39,40,41,42,43,44,45,46,47,48,49,50,51,52,53,54] (fun (i,X,g)=>[(5,.c (.int .i64 (i:Nat))),(4,.os 0 g 0 X.length 1)]) (fun (i,X,g)=>[(g,.blk X.length (bX X))]) (fun (i,X,g)=>i≤l.length∧mw l X i∧∀ j,j<i→0≤Lib.indexByte dZ (l.getD j 0)) (fun (i,X,g)=>l.length-i) ((0,[],p1)) ?_ (fun _=>rfl) ?_ ?_ ?_
 exact ⟨F4 _,⟨rfl,fun j hj=>absurd hj (F3 j),fun h=>absurd h T⟩,fun j hj=>absurd hj (F3 j)⟩
 exact .cons cZ (.cons cZ .nil)
 exact .blk rfl (fun j hj=>absurd hj (F3 j)) .nil
 ·rintro ⟨i,X,g⟩ ⟨(hi:i≤l.length),(hS:mw l X i),he⟩
  have hd:=Cm (l.getD i 0)
  have hv16:=sM (l.getD i 0)
  have hXl:X.length=(i+1) / 2:=hS.1
  have hv17:=sM (l.getD (i-1) 0)
  have hXo:i % 2=1→(X.getD (i / 2) 0).toNat=16 * hv (l.getD (i-1) 0):=fun h=>by rw [hS.2.2 h];exact oL O
  refine U 52400001167 ?_;refine aaa (fun h69=>?_) fun h69=>?_
  ·refine U 84000200020006000 ?_
   have hil:i=l.length:=by omega
   refine jE (freeze 0 rfl) ?_;refine jE (jI 4 (fun k=>fun _=>bX X k) rfl rfl O (fun a b ha hb=>J.of_eq (by rw [Nat.zero_add];congr 1;omega))) ?_;refine U 80007000511240000116 ?_
   have hall:bG l=decide (l.length=32):=by
    by_cases h32:l.length=32
    ·rw [nC h32 (fun j hj=>he j O),GX h32]
    ·rw [nB h32,Gn h32]
   refine cT ?_ (cB (by rw [hall];exact decide_eq_decide.2 O))
   split
   ·rename_i ho
    have h32:=(w8 ho).1
    subst hil
    have hX:=hS.done h32
    exact J.rs (by rw [hX]) fun i j hi hj=>J.of_eq (by rw [hX])
   exact J.top _
  refine U 810 ?_;refine ii (α:=V×Option Nat) [2,3,4,6,7,15,16,17,18,19,20,21,22,23,24,25,26,27,28,29,30,31,32,33,34,35,36,37,38,39,40,41,42,43,44,45,46,47,48,49,50,51,52,53,54] (fun (Y,g')=>[(4,.os 0 g' 0 Y.length 1)]) (fun (Y,g')=>[(g',.blk Y.length (bX Y))]) (fun (Y,g')=>mw l Y (i+1)∧0≤Lib.indexByte dZ (l.getD i 0)) (fun _=>rfl) ?_ ?_
  ·refine U 516518000000011620 ?_;refine ii (α:=Unit) [2,3,7,18,19,20,21,22,23,24,25,26,27,28,29,30,31,32,33,34,35,36] (fun _=>[(7,.c (.int .i64 (hv (l.getD i 0):Nat)))]) (fun _=>[(g,.blk X.length (bX X))]) (fun _=>0≤Lib.indexByte dZ (l.getD i 0)) (fun _=>rfl) ?_ ?_
   ·refine U 1216 ?_;refine aS 20 (fun g72=>?_) fun g72=>?_
    rotate_left
    ·refine U 1216300550044 ?_;refine aS 29 (fun g74=>?_) fun g74=>?_
     rotate_left
     ·refine U 800030005000300030005000300070005116300550044 ?_
      have hb:bG l=false:=jl (i:=i) O (hd.2.2 O O)
      rw [hb,FN T]
      exact cT (J.top _) cZ
     refine U 510000000021 ?_;refine aaa (fun h74=>?_) fun h74=>?_
     ·refine U 800030005000300030005000300070005116 ?_
      have hb:bG l=false:=jl (i:=i) O (hd.2.2 O O)
      rw [hb,FN T]
      exact cT (J.top _) cZ
     refine U 91200 ?_;refine jq (Cc .u8 .i64) ?_;refine U 8519 ?_
     refine jg (()) ?_ (h5:=?_) (h7:=?_)
     exact (hd.1 O).2
     exact .cons (cI (by exact (hd.2.1 O).1.symm)) .nil
     exact .same .nil
    refine U 510000000021 ?_;refine aX (fun h72=>?_) fun h72=>?_
    ·refine U 91200 ?_;refine jq (Cc .u8 .i64) ?_;refine U 851 ?_
     refine jg (()) ?_ (h5:=?_) (h7:=?_)
     exact (hd.1 O).2
     exact .cons (cI (by exact (hd.1 O).1.symm)) .nil
     exact .same .nil
    refine U 1216 ?_;refine aS 29 (fun g74=>?_) fun g74=>?_
    rotate_left
    ·refine U 800030005000300030005000300070005116300550044 ?_
     have hb:bG l=false:=jl (i:=i) O (hd.2.2 O O)
     rw [hb,FN T]
     exact cT (J.top _) cZ
    refine U 510000000021 ?_;refine aaa (fun h74=>?_) fun h74=>?_
    ·refine U 800030005000300030005000300070005116 ?_
     have hb:bG l=false:=jl (i:=i) O (hd.2.2 O O)
     rw [hb,FN T]
     exact cT (J.top _) cZ
    refine U 91200 ?_;refine jq (Cc .u8 .i64) ?_;refine U 8519 ?_
    refine jg (()) ?_ (h5:=?_) (h7:=?_)
    exact (hd.2.1 O).2
    exact .cons (cI (by exact (hd.2.1 O).1.symm)) .nil
    exact .same .nil
   ·rintro u hx1
    refine U 52100000016 ?_;refine aX (fun h79=>?_) fun h79=>?_
    ·refine U 800000911200 ?_
     refine ay (bD 1 1 kV fun p2=>?_)
     refine aL (bV (l2:=[UInt8.ofNat (16 * hv (l.getD i 0))]) rfl rfl rfl (FQ _) (fun _ _=>cZ) (bp rfl (.inl rfl) T) rfl (er (.cons (cI ((by rw [oL O];omega))) .nil)) underlying58 mL tE kV u3 rfl (by (simp;omega)) (hJ rfl rfl) rfl rfl (fun p3=>?_))
     refine U 840051 ?_
     refine jg ((X++[UInt8.ofNat (16 * hv (l.getD i 0))],p3)) ?_ (h5:=?_) (h7:=?_)
     exact ⟨hS.push O,hx1⟩
     exact .cons (cO (by simp)) .nil
     exact .blk (by simp) (fun j hj=>cZ) .nil
    refine U 60000011200 ?_;refine jq (iu (i:=(i / 2)) (hz:=by omega)) ?_;refine U 9800000150 ?_;refine jq (iu (i:=(i / 2)) (hz:=by omega)) ?_
    refine aL (ak 1 (bX (X.set (i / 2) (bx (l.getD (i-1) 0) (l.getD i 0)))) ?_ ?_)
    exact (fun j hj=>pj (by unfold bx;rw [oL (by have:=sM (l.getD (i-1) 0);omega),hS.2.2 O,oL (by have:=sM (l.getD (i-1) 0);omega)];omega) O j)
    refine U 84005 ?_
    refine jg ((X.set (i / 2) (bx (l.getD (i-1) 0) (l.getD i 0)),g)) ?_ (h5:=?_) (h7:=?_)
    exact ⟨hS.put O,hx1⟩
    exact .cons (cO (by simp)) .nil
    exact .blk (by simp) (fun j hj=>cZ) .nil
  ·rintro ⟨Y,g'⟩ ⟨hY,hx0⟩
   refine U 85191200 ?_
   refine aH ((i+1,Y,g')) ?_ ?_ (h5:=?_) (h7:=?_)
   ·exact ⟨by omega,hY,fun j hj=>by
     by_cases e:j=i
     ·subst e;exact hx0
     exact he j O⟩
   show l.length-(i+1)<l.length-i;omega
   exact .cons (cI O) (.cons cZ .nil)
   exact .same .nil
section
variable {P:Program} {G:Gh} {o:Oper} {env:List (Nat×CV)} {b0:Nat→CV} {H:List (Option Nat×av)} {K:AS→Prop}
theorem qj (w:World) (b k:Nat) {cur:Array Value} {ty:TypeId} (h:w.heap[b]?=some (.cells cur ty (0,0))):(w.freeze ⟨b,k,none⟩ 1).heap[b]?=some (.cells cur ty (k,k+1)):=by
 unfold World.freeze
 rw [FN T]
 simp only [GM,h,if_true,GK]
 rfl
theorem oW (w:World) (b k q:Nat) (hq:q≠b):(w.freeze ⟨b,k,none⟩ 1).heap[q]?=w.heap[q]?:=by
 unfold World.freeze
 rw [FN T]
 simp only [GM]
 rw [FN (fun h=>hq h.symm)]
theorem qi (w:World) (b k:Nat):(w.freeze ⟨b,k,none⟩ 1).heap.size=w.heap.size∧(w.freeze ⟨b,k,none⟩ 1).os=w.os∧(w.freeze ⟨b,k,none⟩ 1).tape=w.tape∧(w.freeze ⟨b,k,none⟩ 1).output=w.output:=by
 unfold World.freeze
 rw [FN T]
 exact ⟨by simp,rfl,rfl,rfl⟩
theorem ab.mark {St:Nat→Prop} {s:AS} {a:Act} {w:World} (h:ab G St s a w) {i g n:Nat} {f:Nat→CV} (hH:s.H[i]?=some (some g,.blk n f)) {cur:Array Value} {ty:TypeId} (hc:w.heap[g]?=some (.cells cur ty (0,0))) (k:Nat) :
  (∀ b,St b→b≠g)∧ab G (fun b=>St b∨b=g) ⟨s.env,s.b,s.H.set i (some g,.frz n f)⟩ a (w.freeze ⟨g,k,none⟩ 1):=by
 have ⟨fp,hp⟩:=h.hp
 have hlt:i<s.H.length:=(FL.1 hH).1
 have hrep:=hp.rep i (some g) _ hH
 have hg:fp i g:=(hrep.1 g).2 rfl
 have ⟨hg1,hg2,hg3⟩:=hp.own i g hg
 have hnew:=qj w g k hc
 have hold:∀ b,b≠g→(w.freeze ⟨g,k,none⟩ 1).heap[b]?=w.heap[b]?:=fun b hb=>oW w g k b hb
 have ⟨hsz,ho,ht,hu⟩:=qi w g k
 have hs:∀ b,St b→St b∨b=g:=fun _ h=>.inl h
 have hne:∀ b,St b→b≠g:=fun b hb e=>hg2 (e ▸ hb)
 have he:k9 St w (w.freeze ⟨g,k,none⟩ 1):=⟨fun b cu ct cz hb hcu=>(hold b (hne b hb)).trans hcu,fun b cu t z hb=>by
  by_cases e:b=g
  ·subst e
   rw [hc] at hb
   cases hb
   exact ⟨cur,_,hnew,rfl⟩
  exact ⟨cu,z,(hold b e).trans hb,rfl⟩⟩
 refine ⟨hne,h.df.keep hs (fun b hb=>hold b (hne b hb)),h.sz,fun d=>ai.evo he hs _ _ (h.env d),⟨ho.trans h.un.os,ht.trans h.un.tape,hu.trans h.un.output,by rw [hsz];exact h.un.size,fun k hk hF=>?_,fun b cu t z hb=>?_⟩,fun b hb=>.inl (h.s1 b hb),fun b hb=>?_,fun b hb=>?_,?_,?_,fun q hq=>.inl (h.sg.1 q hq),fun x I=>.inl (h.sg.2 x I)⟩
 ·refine (hold k (fun e=>?_)).trans (h.un.block k hk hF)
  subst e
  rcases hg3 with h1|h1
  omega
  exact hF h1
 ·have ⟨cur',z',h1,h2⟩:=h.un.sh b cu t z hb
  have ⟨cur2,z2,h3,h4⟩:=he.sh b cur' t z' h1
  exact ⟨cur2,z2,h3,h4.trans h2⟩
 ·rcases hb with hb|rfl
  exact h.s2 b hb
  exact .inr hg3
 ·rw [hsz]
  rcases hb with hb|rfl
  exact h.s3 b hb
  exact hg1
 ·refine ⟨fun j b=>j≠i∧fp j b,fun j q r hj=>?_,fun j l b h1 h2=>hp.dis j l b h1.2 h2.2,fun j b h1=>?_,fun j hj b h1=>hp.out j (by simpa using hj) b h1.2⟩
  ·by_cases e:j=i
   ·subst e
    simp [hlt] at hj
    obtain ⟨rfl,rfl⟩:=hj
    have ⟨h0,cur',t',h1,h2,h3⟩:=hrep
    rw [hc] at h1
    cases h1
    exact ⟨fun b hb=>absurd rfl hb.1,.inr rfl,cur,ty,_,hnew,h2,fun m hm=>ai.evo he hs _ _ (h3 m hm)⟩
   ·rw [FU (Ne.symm e)] at hj
    have e2:(fun b=>j≠i∧fp j b)=fp j:=funext fun b=>propext ⟨fun h=>h.2,fun h=>⟨e,h⟩⟩
    show r.rep G.al _ _ (fun b=>j≠i∧fp j b) q
    rw [e2]
    exact av.rep_evo he hs (fun b hF=>hold b (fun e3=>e (hp.dis j i b hF (e3 ▸ hg)))) (hp.rep j q r hj)
  ·have ⟨h2,h3,h4⟩:=hp.own j b h1.2
   exact ⟨by rw [hsz];exact h2,fun hb=>hb.elim h3 fun hb=>h1.1 (hp.dis j i b h1.2 (hb ▸ hg)),h4⟩
 exact cd.keep h.sn (fun q hq=>hold q (hne q (h.sg.1 q hq))) (fun q hq=>hold _ (hne _ (h.sg.2 q hq)))
end
section
variable {P:Program} {G:Gh} {ops:Array Oper} {o:Oper} {s:AS} {K:AS→Prop} {t u:TypeId} {x y:Operand} {env:List (Nat×CV)} {b0:Nat→CV} {H:List (Option Nat×av)}
end
section
variable {P:Program} {G:Gh} {o:Oper} {K:AS→Prop} {env:List (Nat×CV)} {b0:Nat→CV} {H:List (Option Nat×av)}
end
section
variable {P:Program} {G:Gh} {o:Oper} {s:AS} {t:TypeId} {x y:Operand} {k:IntKind}
end
theorem bL (f:Nat→CV) {n j:Nat} (h:j<n):fl (List.map f (List.range n)) j=f j:=by rw [bz];simp [List.getD,h]
section
open Go.RowKit Cal
section
variable {P:Program} {G:Gh} {o:Oper} {s:AS} {t u:TypeId} {x y:Operand} {a b:V}
end
theorem Bu {gs:List Nat} (l:V) (hl:l.length≤1000000):c4 gs prog 67 [bi l] (.c (.bool (bG l))):=by
 refine ag 11 func67 fun _ _ _ _=>?_;refine U 16516 ?_
 refine ay (aD (yI l hl) ?_)
 refine U 51165119009001 ?_
 refine jR d4
end
end Am
end Go.Proofs.YtnijncmifjnifaaGreatDoor
