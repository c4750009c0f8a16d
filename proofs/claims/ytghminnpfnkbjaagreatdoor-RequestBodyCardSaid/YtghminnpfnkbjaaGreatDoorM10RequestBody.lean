/- What the law leans on, part 10 -/
import Derived.Test.YtghminnpfnkbjaaGreatDoorM9RequestBody
set_option maxRecDepth 100000
set_option maxHeartbeats 8000000
set_option linter.unusedVariables false
open Go.Proofs.Tryz
namespace Go.Proofs.YtghminnpfnkbjaaGreatDoor
namespace Am
open Go.RowKit
section
variable {gs:List Nat} [PU gs]
def Oz (n:Int):Bool:=decide (0≤n) && decide (n≤2147483647)
theorem fS {l:List Int} (h:(l.length:Int)<2∨(16:Int)<l.length∨l.getD 0 0<0∨2<l.getD 0 0∨(l.getD 0 0<2∧39<l.getD 1 0)∨l.all Oz=false):dz l=false:=by
 cases e:dz l with
 | false=>rfl
 | true =>
  have ⟨h1,h2,h3,h4,h5⟩:=kz e
  rcases h with h|h|h|h|h|h
  omega
  omega
  ·have:=h3 _ (dZ (l:=l) (k:=0) 0 O);omega
  omega
  omega
  ·have:l.all Oz=true:=Z1.2 fun n hn=>by have:=h3 n hn;unfold Oz;simp;omega
   rw [this] at h;cases h
theorem xm {l:List Int} (h1:¬ (l.length:Int)<2) (h2:¬ (16:Int)<l.length) (h3:¬ 2<l.getD 0 0) (h4:¬ (l.getD 0 0<2∧39<l.getD 1 0)) (h5:l.all Oz=true):dz l=true:=by
 unfold dz
 have e:l.all (fun n=>decide (0≤n) && decide (n≤2147483647))=true:=h5
 rw [e,abx (show 2≤l.length by omega),abx (show l.length≤16 by omega),abx (show l.getD 0 0≤2 by omega)]
 by_cases h6:l.getD 0 0=2
 ·rw [abx h6];rfl
 ·rw [abx (show l.getD 1 0<40 by omega),Bool.or_true];rfl
theorem HT {n:Int} (h1:¬ n<0) (h2:¬ 2147483647<n):Oz n=true:=by
 unfold Oz
 simp only [ZE,ZJ]
 omega
theorem Cb {n:Int} (h:n<0∨2147483647<n):Oz n=false:=by
 cases e:Oz n with
 | false=>rfl
 | true =>
  unfold Oz at e
  simp only [ZE,ZJ] at e
  omega
theorem ym (p:I):((u9 p).2=true↔(mV p).2=0)∧((u9 p).2=true→(u9 p).1=(mV p).1):=by
 unfold u9
 split
 ·rename_i h;exact ⟨⟨fun _=>h,fun _=>rfl⟩,fun _=>rfl⟩
 ·rename_i h;exact ⟨⟨fun e=>(by cases e),fun e=>absurd e h⟩,fun e=>(by cases e)⟩
theorem Hw {p:I} (h:(u9 p).2=false∨(10:Int)<p.length):Ae p=false:=by
 cases e:Ae p with
 | false=>rfl
 | true =>
  unfold Ae at e
  simp only [ZE,ZJ] at e
  have:=(ym p).1.2 e.1
  rcases h with h|h
  ·rw [h] at this;cases this
  omega
theorem DF {p:I} (h:(u9 p).2=true) (h2:¬ (10:Int)<p.length):Ae p=true∧((u9 p).1:Int)=o9 p:=by
 refine ⟨?_,by rw [(ym p).2 h];rfl⟩
 unfold Ae
 simp only [ZE,ZJ]
 exact ⟨(ym p).1.1 h,by omega⟩
theorem ul {α:Type} {p:α→Bool} {l:List α} {i:Nat} (d:α) (h:i<l.length) (h1:(l.take i).all p=true) (h2:p (l.getD i d)=true):(l.take (i+1)).all p=true:=by
 rw [kr d h,bTx,h1,a4x,h2]
 rfl
theorem FB {gs:List Nat} (l:List Int):cd gs prog 215 [CE l] (.c (.bool (dz l))):=by
 refine fF 0 rfl fun hlen=>?_;refine ae 50 func215 fun _ _ _ _=>?_;refine U 123167516 ?_;refine aH 8 (fun g11=>?_) fun g11=>?_
 ·refine U 80003000700051690005100000000444444444411000000004444110000000044441100000000444 ?_;refine cB ?_
  refine (fS ?_).symm
  omega
 refine U 1500231 ?_;refine aH 13 (fun g11_2=>?_) fun g11_2=>?_
 ·refine U 8000300070005169000510000000044444444441100000000444411000000004444 ?_;refine cB ?_
  refine (fS ?_).symm
  omega
 refine U 150026020000001 ?_;refine aH 19 (fun g11_3=>?_) fun g11_3=>?_
 ·refine U 80003000700051690005100000000444444444411000000004444 ?_;refine cB ?_
  refine (fS ?_).symm
  omega
 refine U 150026020000001 ?_;refine aH 25 (fun g11_4=>?_) fun g11_4=>?_
 ·refine U 800030007000516900051000000004444444444 ?_;refine cB ?_
  refine (fS ?_).symm
  omega
 refine U 126020000001 ?_;refine aH 30 (fun g11_5=>?_) fun g11_5=>?_
 rotate_left
 ·refine U 2051316781030055005004444 ?_;refine ar (α:=Nat) [2,4,39,40,41,42,43,44,45,46,47,48,49] (fun i=>[(39,.c (.int .i64 (i:Nat)))]) (fun _=>[]) (fun i=>i≤l.length∧(l.take i).all Oz=true) (fun i=>l.length-i) (0) ?_ (fun _=>rfl) ?_ ?_ ?_
  exact ⟨ZL _,rfl⟩
  ·(repeat (first|exact bh.nil|refine bh.cons Z ?_))
  ·(repeat (exact aD.nil))
  ·rintro i ⟨(hi:i≤l.length),hall⟩
   refine U 7526 ?_;refine aaa (fun h14=>?_) fun h14=>?_
   ·refine U 8000700051684000200020006000 ?_;refine cB ?_
    rw [show i=l.length by omega,ZW] at hall
    exact (xm O O O O hall).symm
   refine U 121651607006207810 ?_;refine aH 45 (fun g15=>?_) fun g15=>?_
   ·refine U 80003000500030003000500070005169000510000000044 ?_;refine cB ?_
    exact (fS (.inr (.inr (.inr (.inr (.inr (i6 (k:=i) 0 O (Cb O)))))))).symm
   refine U 550021 ?_;refine an (fun h15=>?_) fun h15=>?_
   ·refine U 8000300050003000300050007000516 ?_;refine cB ?_
    exact (fS (.inr (.inr (.inr (.inr (.inr (i6 (k:=i) 0 O (Cb O)))))))).symm
   refine U 8519200840010 ?_;refine am (i+1) ?_ ?_
   exact ⟨by omega,ul 0 O hall (HT O O)⟩
   show l.length-(i+1)<l.length-i;omega
 refine U 1 ?_;refine jq (dP (i:=1)) ?_;refine U 5500100000000260 ?_;refine an (fun h11=>?_) fun h11=>?_
 ·refine U 800030007000516 ?_;refine cB ?_
  refine (fS ?_).symm
  omega
 refine U 20513167810 ?_;refine ar (α:=Nat) [2,4,39,40,41,42,43,44,45,46,47,48,49] (fun i=>[(39,.c (.int .i64 (i:Nat)))]) (fun _=>[]) (fun i=>i≤l.length∧(l.take i).all Oz=true) (fun i=>l.length-i) (0) ?_ (fun _=>rfl) ?_ ?_ ?_
 exact ⟨ZL _,rfl⟩
 ·(repeat (first|exact bh.nil|refine bh.cons Z ?_))
 ·(repeat (exact aD.nil))
 ·rintro i ⟨(hi:i≤l.length),hall⟩
  refine U 7526 ?_;refine aaa (fun h14=>?_) fun h14=>?_
  ·refine U 8000700051684000200020006000 ?_;refine cB ?_
   rw [show i=l.length by omega,ZW] at hall
   exact (xm O O O O hall).symm
  refine U 121651607006207810 ?_;refine aH 45 (fun g15=>?_) fun g15=>?_
  ·refine U 80003000500030003000500070005169000510000000044 ?_;refine cB ?_
   exact (fS (.inr (.inr (.inr (.inr (.inr (i6 (k:=i) 0 O (Cb O)))))))).symm
  refine U 550021 ?_;refine an (fun h15=>?_) fun h15=>?_
  ·refine U 8000300050003000300050007000516 ?_;refine cB ?_
   exact (fS (.inr (.inr (.inr (.inr (.inr (i6 (k:=i) 0 O (Cb O)))))))).symm
  refine U 8519200840010 ?_;refine am (i+1) ?_ ?_
  exact ⟨by omega,ul 0 O hall (HT O O)⟩
  show l.length-(i+1)<l.length-i;omega
theorem C1 {c:UInt8} {s:I} {a i:Nat} (hai:a≤i) (hi:i<s.length) (hno:c ∉ (s.take i).drop a) (hc:s.getD i 0=c):aC c (s.drop a)=(s.take i).drop a::aC c (s.drop (i+1)):=by
 have e:s.drop a=(s.take i).drop a++c::s.drop (i+1):=by
  have h1:s=s.take i++s.drop i:=(amx i s).symm
  have h2:s.drop i=c::s.drop (i+1):=by
   rw [ZZ hi,← hc]
   simp [List.getD,hi]
  conv=>lhs;rw [h1,bkx (by rw [ZK];omega),h2]
 rw [e,uo _ hno]
theorem FU {c:UInt8} {s:I} {a i:Nat} (hai:a≤i) (hi:i<s.length) (hno:c ∉ (s.take i).drop a) (hc:s.getD i 0≠c):c ∉ (s.take (i+1)).drop a:=by
 rw [kr 0 hi,bkx (by rw [ZK];omega)]
 intro h
 rcases bcx.1 h with h|h
 exact hno h
 exact hc (agx.1 h).symm
theorem Um {c d:UInt8} (h:(c.toNat:Int)=d.toNat):c=d:=akx.1 O
theorem Jd {gs:List Nat} (s:I) (hs:s.length≤1000000000):cd gs prog 213 [ap s] (YU (aC 46 s)):=by
 have hpl:=qf 46 s
 refine ae 32 func213 fun _ _ _ _=>?_;refine U 6516 ?_
 refine aq (aM 0 1 CC fun p1=>?_)
 refine U 205167511 ?_;refine ar (α:=Nat×Nat×Zx×Option Nat) [3,4,5,7,8,9,10,11,12,13,14,15,16,17,18,19,20,21,22,23,24,25] (fun (i,a,X,g)=>[(5,.c (.int .i64 (i:Nat))),(4,.c (.int .i64 (a:Nat))),(3,.os 0 g 0 X.length 1)]) (fun (i,a,X,g)=>[(g,.blk (X.length * 1) (QG X))]) (fun (i,a,X,g)=>i≤s.length∧a≤i∧X.length≤i∧aC 46 s=X++aC 46 (s.drop a)∧(46:UInt8) ∉ (s.take i).drop a) (fun (i,a,X,g)=>s.length-i) ((0,0,[],p1)) ?_ (fun _=>rfl) ?_ ?_ ?_
 exact ⟨ZL _,ZA _,ZA _,by simp,by simp⟩
 exact .cons Z (.cons Z (.cons Z .nil))
 exact .blk rfl (fun j hj=>absurd hj (ZO j)) .nil
 ·rintro ⟨i,a,X,g⟩ ⟨(hi:i≤s.length),(ha:a≤i),(hX:X.length≤i),hsp,hno⟩
  refine U 52400001167 ?_;refine aaa (fun h25=>?_) fun h25=>?_
  ·refine U 111684000200020006000 ?_;refine jq (xy rfl rfl underlying9 rfl (show _=((a:Nat):Int) by omega) (by omega)) ?_
   refine aq (aM 1 1 CC fun p2=>?_)
   refine aw (aB (BE) (l2:=[s.drop a]) rfl rfl rfl rfl (by exact ZA _) (fun _ _=>Z) (aI rfl (.inl rfl) jD) rfl (fun j hj=>by rcases j with _|j<;>first|exact Z|(exfalso;simp at hj<;>omega)) underlying27 JX P0 CC Wd rfl (by (simp;omega)) (by (simp;omega)) (bw rfl rfl) rfl rfl rfl (fun p3=>?_))
   refine U 51 ?_
   have hi2:i=s.length:=by omega
   rw [hi2,ZW] at hno
   rw [pe hno] at hsp
   refine jE (freeze 0 rfl) ?_;refine jE (iG 2 (fun b _=>ap ((X++[s.drop a]).getD b [])) rfl rfl O G8) ?_;refine U 80007000 ?_
   rw [hsp]
   exact Z
  refine U 5280000000116207810 ?_;refine aaa (fun h26=>?_) fun h26=>?_
  ·refine U 85191200840010 ?_
   refine am ((i+1,a,X,g)) ?_ ?_ (h5:=?_) (h7:=?_)
   exact ⟨by omega,by omega,by omega,hsp,FU ha O hno (fun e=>h26 (by rw [e];rfl))⟩
   show s.length-(i+1)<s.length-i;omega
   exact .cons (cI O) (.cons Z (.cons Z .nil))
   exact .same .nil
  refine U 11116 ?_;refine jq (uy rfl rfl underlying9 (ci rfl (show _=((a:Nat):Int) by omega)) (ci rfl (show _=((i:Nat):Int) by omega)) (by omega) (by omega)) ?_
  refine aq (aM 1 1 CC fun p2=>?_)
  refine aw (aB (BE) (l2:=[(s.take i).drop a]) rfl rfl rfl rfl (by exact ZA _) (fun _ _=>Z) (aI rfl (.inl rfl) jD) rfl (fun j hj=>by rcases j with _|j<;>first|exact Z|(exfalso;simp at hj<;>omega)) underlying27 JX P0 CC Wd rfl (by (simp;omega)) (by (simp;omega)) (bw rfl rfl) rfl rfl rfl (fun p3=>?_))
  refine U 851912008400519120051 ?_
  refine am ((i+1,i+1,X++[(s.take i).drop a],p3)) ?_ ?_ (h5:=?_) (h7:=?_)
  exact ⟨by omega,by omega,by simp;omega,by rw [hsp,C1 ha O hno (Um (d:=46) h26)];simp,by rw [aux (by simp only [ZK];omega)];exact ahx⟩
  show s.length-(i+1)<s.length-i;omega
  exact .cons (cI O) (.cons (cI O) (.cons Z .nil))
  exact .same .nil
theorem Jj {gs:List Nat} (s:I) (hs:s.length≤1000000000):cd gs prog 179 [ap s] (.tup 2 (fl [CE (bq s).1,.c (.int .i64 ((bq s).2:Nat))])):=by
 have hpl:=qf 46 s
 refine ae 38 func179 fun _ _ _ _=>?_;refine U 65116 ?_
 refine aq (aM 0 1 rm fun p1=>?_)
 refine U 16751 ?_
 refine aq (ak (Jd s hs) ?_)
 refine U 20513 ?_;refine ar (α:=Nat×List Int×Option Nat) [2,3,4,6,7,8,13,14,15,16,17,18,19,20,21,22,23,24,25,26,27,28,29,30,31,32,33] (fun (k,X,g)=>[(13,.c (.int .i64 (k:Nat))),(4,.os 0 g 0 X.length 1)]) (fun (k,X,g)=>[(g,.blk X.length (qG X))]) (fun (k,X,g)=>k≤(aC 46 s).length∧X=((aC 46 s).take k).map o9∧((aC 46 s).take k).all Ae=true) (fun (k,X,g)=>(aC 46 s).length-k) ((0,[],p1)) ?_ (fun _=>rfl) ?_ ?_ ?_
 exact ⟨ZL _,rfl,rfl⟩
 exact .cons Z (.cons Z .nil)
 exact .blk rfl (fun j hj=>absurd hj (ZO j)) .nil
 ·rintro ⟨k,X,g⟩ ⟨(hk:k≤_),hX,hall⟩
  have hXl:X.length≤k:=by rw [hX,axx,ZK];omega
  refine U 7526 ?_;refine aaa (fun h37=>?_) fun h37=>?_
  ·refine U 784000200020006000 ?_
   have hk2:k=(aC 46 s).length:=by omega
   rw [hk2,ZW] at hX hall
   refine jE (freeze 0 rfl) ?_;refine jE (wZ 4 X rfl rfl rfl (bfx (ZA _)) (fun j hj=>Z)) ?_;refine U 16 ?_
   refine aq (ak (FB X) ?_)
   refine U 530 ?_;refine an (fun h44=>?_) fun h44=>?_
   ·refine U 8000300070005116 ?_
    have hb:=vy hall (by rw [← hX];simpa using h44)
    exact cT (aa.nilS' (by rw [hb.1];rfl)) (cI (by rw [hb.2];rfl))
   refine U 8000700051116810 ?_
   have hb:=xF hall (by rw [← hX];simpa using h44)
   exact cT (show aa (CE X) _ from aa.of_eq (by rw [hb.1,hX])) (cI (by rw [hb.2];rfl))
  refine U 1651607006207810 ?_
  refine aq (ak (Q6 ((aC 46 s).getD k [])) ?_)
  refine U 1301675119009001 ?_;refine aH 24 (fun g39=>?_) fun g39=>?_
  ·refine U 80003000500030003000500030007000511690005100000000444 ?_
   have hb:=uC (s:=s) (i6 (k:=k) [] O (by exact Hw (.inl (by simpa using g39))))
   exact cT (aa.nilS' (by rw [hb.1];rfl)) (cI (by rw [hb.2];rfl))
  refine U 55002400001 ?_;refine an (fun h39=>?_) fun h39=>?_
  ·refine U 800030005000300030005000300070005116 ?_
   have hb:=uC (s:=s) (i6 (k:=k) [] O (by exact Hw (.inr O)))
   exact cT (aa.nilS' (by rw [hb.1];rfl)) (cI (by rw [hb.2];rfl))
  refine U 11200810 ?_
  refine aq (aM 1 1 rm fun p2=>?_)
  refine aw (aB lf (l2:=[o9 ((aC 46 s).getD k [])]) rfl rfl rfl rfl (by exact aqx (ZS _)) (fun _ _=>Z) (aI rfl (.inl rfl) jD) rfl (qH (.cons (cI ((DF (by simpa using g39) h39).2)) .nil)) underlying106 oN Ls rm Lv rfl (by (simp;omega)) (by (simp;omega)) (bw rfl rfl) rfl rfl (ZS _) (fun p3=>?_))
  refine U 8519200840051 ?_
  refine am ((k+1,X++[o9 ((aC 46 s).getD k [])],p3)) ?_ ?_ (h5:=?_) (h7:=?_)
  exact ⟨by omega,by rw [hX,kr [] O,a0x];rfl,ul [] O hall (DF (by simpa using g39) h39).1⟩
  show (aC 46 s).length-(k+1)<(aC 46 s).length-k;omega
  exact .cons (cI O) (.cons Z .nil)
  exact .same .nil
end
section
variable {gs:List Nat} [ib gs]
theorem LP {gs:List Nat} {g:FuncId} {n:Nat} {fv:Nat→CV} (hc:bA prog g=true) (l:List (UInt8)) (p:(UInt8)→Bool) (hp:∀ r,cd gs prog g ((fun z:UInt8=>.c (.int .u8 (z.toNat:Nat))) r::(List.range n).map fv) (.c (.bool (p r)))) :
  cd gs prog 263 [bc l,.fn g n fv] (.c (.int .i64 (ek p l))):=by
 refine fF 0 rfl fun hlen=>?_;refine ae 19 func263 fun _ _ _ _=>?_;refine U 20513167516 ?_;refine ar (α:=Nat) [4,5,8,9,10,11,12,13,14,15,16,17,18] (fun i=>[(8,.c (.int .i64 (i:Nat)))]) (fun _=>[]) (fun i=>i≤l.length∧∀ j (hj:j<l.length),j<i→p l[j]=false) (fun i=>l.length-i) (0) ?_ (fun _=>rfl) ?_ ?_ ?_
 exact ⟨by omega,fun j _ hj=>absurd hj (ZO j)⟩
 ·(repeat (first|exact bh.nil|refine bh.cons Z ?_))
 ·(repeat (exact aD.nil))
 ·rintro i ⟨hi,he⟩
  refine U 7526 ?_;refine aaa (fun h108=>?_) fun h108=>?_
  ·refine U 8000700051684000200020006000 ?_;refine cI ?_
   exact (my fun j hj=>he j hj O).symm
  refine U 6070011165116207810 ?_
  refine aq (ln rfl rfl (by assumption) (hp (l.getD i 0)) (oz Z _) rfl rfl ?_)
  rintro _ _ ⟨rfl,rfl⟩
  refine U 5 ?_;refine an (fun h109=>?_) fun h109=>?_
  ·refine U 80003000500030003000500070005116 ?_;refine cI ?_
   have hlt:i<l.length:=by omega
   exact (ny i hlt (by simpa [List.getD,hlt] using h109) (fun j hj=>he j O hj)).symm
  refine U 8519200840010 ?_;refine am (i+1) ?_ ?_
  ·exact ⟨by omega,fun j hj hj1=>by
    by_cases e:j=i
    ·subst e
     simpa [List.getD,hj] using h109
    exact he j hj O⟩
  omega
theorem Vf {gs:List Nat} (c:UInt8):cd gs prog 264 (.c (.int .u8 (c.toNat:Nat))::(List.range 0).map fun _=>.top) (.c (.bool (decide (c.toNat<128)))):=by
 refine ae 5 func264 fun _ _ _ _=>?_;refine U 8000700051216516 ?_;refine cB ?_
 (simp_all;omega)
def TA (f:FuncId) (g:Option Nat):CV:=.fn f 1 (fl [.op 0 g 0])
theorem QS {gs:List Nat} (b:I):AC gs prog 241 [] [bc b] (fun r H'=>∃ g,r=TA 262 g∧H'=[(g,.blk 1 (fun _=>bc b))]):=by
 refine ae 4 func241 fun _ _ _ _=>?_;refine eA ?_
 refine aq (ee 1 fun p1=>?_)
 refine U 51 ?_;refine jE (dt 0 (m:=1) (F:=fun _=>bc b) rfl (ZA _) (fun _=>rfl) (fun j hj=>by obtain rfl:j=0:=O;exact Z)) ?_;refine eA ?_;refine jq Of ?_;refine U 700051 ?_
 exact bi (.inl rfl) (TA 262 p1) _ [0] jD rfl ((aK rfl (ai rfl)).ent (by refine aa.fn1 ?_;exact cP)) ⟨_,rfl,rfl⟩
theorem I7 {b rest:I} {k:Nat} (h:(bI b).drop k=bI rest) (hr:rest≠[]):k<(bI b).length∧(bI b).getD k []=rest.take (bP rest)∧(bI b).drop (k+1)=bI (rest.drop (bP rest)):=by
 rw [nP hr] at h
 have h2:=vf (d:=[]) h
 refine ⟨?_,h2.1,h2.2⟩
 apply a1x
 intro hn
 rw [aux O] at h
 cases h
theorem MB {b rest:I} {k:Nat} (h:(bI b).drop k=bI rest) (hr:rest=[]) (hk:k≤(bI b).length):k=(bI b).length:=by
 subst hr
 rw [jL] at h
 have:=List.drop_eq_nil_iff.1 h
 omega
theorem I6 {gs:List Nat} (b:I) (g:Option Nat) (hb:b.length≤100000000000):PY gs prog 262 [(g,.blk 1 (fun _=>bc b))] ((List.range 1).map (fl [.op 0 g 0])) (bI b).length (fun k=>[bc ((bI b).getD k [])]):=fun l J Jx hY=>by
 refine GR true 23 func262 rfl rfl rfl (fun _ _ _ _=>?_)
 refine U 20 ?_;refine ar (α:=Nat×I) [3,4,5,6,7,8,9,10,11,12,13,14,15,16,17,18,19,20,21,22] (fun _=>[]) (fun (k,rest)=>[(g,.blk 1 (fun _=>bc rest)),(some l,.obj (J k))]) (fun (k,rest)=>(bI b).drop k=bI rest∧rest.length≤b.length∧k≤(bI b).length) (fun (k,rest)=>rest.length) ((0,b)) ?_ (fun _=>rfl) ?_ ?_ ?_
 exact ⟨rfl,ZA _,ZL _⟩
 exact .nil
 exact .same (.same .nil)
 ·rintro ⟨k,rest⟩ ⟨hk,hlen,hkn⟩
  refine U 5235067 ?_;refine aaa (fun h83=>?_) fun h83=>?_
  ·refine U 4000200020006000 ?_
   exact bi (.inr rfl) _ _ [1] jD rfl (br rfl) (.inl (by rw [← MB hk (alx.1 O) hkn];rfl))
  refine U 20810 ?_
  have hne:rest≠[]:=aax.1 O
  have hk2:=I7 hk hne
  have hrl:=R3 rest (fun c=>decide (c.toNat<128)) (fun _=>rfl)
  have hrp:=gN hne
  have hrn:=lu rest
  have hfb:=nw (fun c:UInt8=>decide (c.toNat<128)) rest
  refine U 506 ?_
  refine aq (ak (LP (n:=0) (fv:=fun _=>.top) (by kernel_rfl) rest (fun c=>decide (c.toNat<128)) Vf) ?_)
  refine U 519 ?_;refine i5 (α:=Unit) [3,10,11,12,13] (fun _=>[(3,.c (.int .i64 (bP rest:Nat)))]) (fun _=>[(g,.blk 1 (fun _=>bc rest)),(some l,.obj (J k))]) (fun _=>True) (fun _=>rfl) ?_ ?_
  ·refine U 5216 ?_;refine aaa (fun h85=>?_) fun h85=>?_
   ·refine U 810 ?_
    refine fy (()) ?_ (h5:=?_) (h7:=?_)
    ·trivial
    exact .cons (cI O) .nil
    exact .same (.same .nil)
   refine U 851350200 ?_
   refine fy (()) ?_ (h5:=?_) (h7:=?_)
   ·trivial
   exact .cons (cI O) .nil
   exact .same (.same .nil)
  ·rintro u _
   refine U 150167 ?_;refine jq (D5 (hz2:=(show _=(((bP rest):Nat):Int) by omega))) ?_
   refine Bu (aU rfl) rfl (BX (i:=1) rfl rfl rfl (hY k hk2.1) (.cons (se rfl (aa.bs hk2.2.1.symm)) .nil) rfl rfl ?_)
   rintro _ _ (⟨rfl,rfl⟩|⟨rfl,rfl⟩)
   ·refine ⟨_,_,rfl,Z,?_⟩
    refine U 150200810300530 ?_;refine jq (o0 (hz1:=(show _=(((bP rest):Nat):Int) by omega))) ?_
    refine aw (bn 1 ?_)
    refine U 84005 ?_
    refine am ((k+1,rest.drop (bP rest))) ?_ ?_ (h5:=?_) (h7:=?_)
    exact ⟨hk2.2.2,by rw [ZI];omega,by omega⟩
    ·show (rest.drop (bP rest)).length<rest.length;rw [ZI];omega
    exact .nil
    exact .blk rfl (fun j hj=>by obtain rfl:j=0:=O;exact Z) (.same .nil)
   ·refine ⟨_,_,rfl,Z,?_⟩
    refine U 500030005000300070009000530 ?_
    exact bi (.inl rfl) _ _ [1] jD rfl (br rfl) (.inr rfl)
theorem Mr {l:List Int} {i:Nat} (h:i<l.length):((l.take (i+1)).map fun n=>mD n.toNat)=((l.take i).map fun n=>mD n.toNat)++[mD (l.getD i 0).toNat]:=by
 rw [kr 0 h,a0x];rfl
theorem Nm (l:List Int):cd gs prog 243 [CE l] (.tup 2 (fl [ap (vp l).1,.err (vp l).2])):=by
 refine fF 0 rfl fun hlen=>?_;refine ae 25 func243 fun _ _ _ _=>?_;refine U 1675116 ?_
 refine aq (ak (Ac l) ?_)
 refine U 530 ?_;refine an (fun h47=>?_) fun h47=>?_
 ·refine ia ?_;refine dQ (.rd 0 (.rd 1 (.rd 2 .done))) ?_;refine aJ (cK 0) ?_;refine U 8000300070008807070 ?_
  have hb:vp l=([],1):=by unfold vp;rw [Zy (by simp_all)]
  exact cT (aa.strL (by rw [hb])) (aa.errN (by rw [hb]))
 refine U 7516810 ?_;refine jE (f8 (QG [])) ?_;refine U 2051316 ?_;refine ar (α:=Nat×Zx×Option Nat) [4,6,13,14,15,16,17,18,19,20,21,22] (fun (i,X,g)=>[(13,.c (.int .i64 (i:Nat))),(4,.os 0 g 0 X.length 1)]) (fun (i,X,g)=>[(g,.blk (X.length * 1) (QG X))]) (fun (i,X,g)=>i≤l.length∧X=(l.take i).map fun n=>mD n.toNat) (fun (i,X,g)=>l.length-i) ((0,[],none)) ?_ (fun _=>rfl) ?_ ?_ ?_
 exact ⟨ZL _,rfl⟩
 exact .cons Z (.cons aa.nilO .nil)
 exact .blk rfl (fun j hj=>absurd hj (ZO j)) .nil
 ·rintro ⟨i,X,g⟩ ⟨(hi:i≤l.length),hX⟩
  have hXl:X.length=i:=by rw [hX,axx,ZK];omega
  obtain ⟨r1,r2,r3,_,_⟩:=kz (l:=l) (by simp_all)
  refine jE (f8 (QG [])) ?_;refine U 7526 ?_;refine aaa (fun h51=>?_) fun h51=>?_
  ·refine U 84000200020006000 ?_
   have hi2:i=l.length:=by omega
   rw [hi2,ZW] at hX
   have hb:vp l=(w5 l,0):=by unfold vp;rw [Zz (by simp_all)]
   obtain ⟨q1,q2,q3,_,_⟩:=kz (l:=l) (by simp_all)
   have hjl:=Ea (c:=46) (m:=10) (ls:=X) (fun p hp=>by
    rw [hX] at hp
    obtain ⟨n,hn,rfl⟩:=bBx.1 hp
    exact qR 9 n.toNat (by have:=q3 n hn;omega))
   have hjo:=D9 46 X
   refine jE (freeze 0 rfl) ?_;refine jE (iG 4 (fun b _=>ap (X.getD b [])) rfl rfl O G8) ?_;refine U 16 ?_
   refine aq (ak (Sf X [46] O (by rw [hjo];omega)) ?_)
   refine U 511 ?_
   refine jR (eN (hv:=cT (aa.strL (by rw [hb,hjo,hX];rfl)) (aa.nilE (by rw [hb]))))
  refine U 207810 ?_;refine jE (f8 (QG [])) ?_;refine U 51607006 ?_
  have hn:=r3 _ (dZ (l:=l) (k:=i) 0 O)
  refine U 11200 ?_
  refine aq (ak (Qm (l.getD i 0).toNat O) ?_ (ho:=rfl) (he:=(.cons (se rfl (cI O)) .nil)))
  refine aq (aM 1 1 CC fun p1=>?_)
  refine aw (aB (BE) (l2:=[mD (l.getD i 0).toNat]) rfl rfl rfl rfl (by exact ZA _) (fun _ _=>Z) (aI rfl (.inl rfl) jD) rfl (fun j hj=>by rcases j with _|j<;>first|exact Z|(exfalso;simp at hj<;>omega)) underlying27 JX P0 CC Wd rfl (by (simp;omega)) (by (simp;omega)) (bw rfl rfl) rfl rfl rfl (fun p2=>?_))
  refine U 840051 ?_;refine jE (f8 (QG [])) ?_;refine U 8519200 ?_
  refine am ((i+1,X++[mD (l.getD i 0).toNat],p2)) ?_ ?_ (h5:=?_) (h7:=?_)
  exact ⟨by omega,by rw [hX,Mr O]⟩
  show l.length-(i+1)<l.length-i;omega
  exact .cons (cI O) (.cons Z .nil)
  exact .same .nil
theorem xn {b:I} {k:Nat} (hk:k<(bI b).length):(fu b).getD k (0,0)=fI ((bI b).getD k []) (if k=0 then 2147483727 else 2147483647):=Dq _ _ _ hk
theorem Do {b:I} {k:Nat} (hk:k<(bI b).length):(((fu b).take (k+1)).map (·.1))=(((fu b).take k).map (·.1))++[((fu b).getD k (0,0)).1]:=by
 rw [kr (0,0) (by rw [nj];exact hk),a0x];rfl
theorem RP (r:I) (most:Nat):(fI r most).1≤most:=by
 unfold fI
 split
 exact ZL _
 split
 exact ZL _
 split
 exact ZL _
 show eE r≤most;omega
theorem Qx {a b c d:Int} (h1:a=c) (h2:b=d):∀ j,j<[c,d].length→aa (fl [.c (.int .i64 a),.c (.int .i64 b)] j) (qG [c,d] j):=fun j hj=>by
 rcases j with _|_|j
 exact cI h1
 exact cI h2
 exact absurd hj (by simp)
section
variable {b:I} {k:Nat} {X:List Int}
theorem T3 (hk:k<(bI b).length) (h0:0<k) (herr:fA ((fu b).take k)=0) (h:(fI ((bI b).getD k []) 2147483647).2≠0):(fI ((bI b).getD k []) 2147483647).2=fA (fu b):=by
 have hat:=xn hk
 rw [jK] at hat
 rw [← hat] at h ⊢
 exact (Ex (by rw [nj];exact hk) herr h).symm
theorem T4 (hk:k<(bI b).length) (h0:k=0) (herr:fA ((fu b).take k)=0) (h:(fI ((bI b).getD k []) 2147483727).2≠0):(fI ((bI b).getD k []) 2147483727).2=fA (fu b):=by
 have hat:=xn hk
 rw [Zz h0] at hat
 rw [← hat] at h ⊢
 exact (Ex (by rw [nj];exact hk) herr h).symm
theorem YN (hk:k<(bI b).length) (h0:0<k) (herr:fA ((fu b).take k)=0) (h:(fI ((bI b).getD k []) 2147483647).2≠0):fA (fu b)≠0:=by
 rw [← T3 hk h0 herr h];exact h
theorem YO (hk:k<(bI b).length) (h0:k=0) (herr:fA ((fu b).take k)=0) (h:(fI ((bI b).getD k []) 2147483727).2≠0):fA (fu b)≠0:=by
 rw [← T4 hk h0 herr h];exact h
theorem Xb (hk:k<(bI b).length) (h0:0<k) (hX:X=eK (((fu b).take k).map (·.1))) (herr:fA ((fu b).take k)=0) (h:(fI ((bI b).getD k []) 2147483647).2=0):X++[((fI ((bI b).getD k []) 2147483647).1:Int)]=eK (((fu b).take (k+1)).map (·.1))∧fA ((fu b).take (k+1))=0:=by
 have hat:=xn hk
 rw [jK] at hat
 have hkR:k<(fu b).length:=by rw [nj];exact hk
 refine ⟨?_,by rw [Ew hkR herr,hat,h]⟩
 rw [Do hk,hat,Li _ (fun e=>by have:=ZV List.length e;rw [axx,ZK,List.length_nil] at this;omega),hX]
theorem Xc (hk:k<(bI b).length) (h0:k=0) (herr:fA ((fu b).take k)=0) (h:(fI ((bI b).getD k []) 2147483727).2=0):[((min ((fI ((bI b).getD k []) 2147483727).1 / 40) 2:Nat):Int),((fI ((bI b).getD k []) 2147483727).1:Int)-40 * ((min ((fI ((bI b).getD k []) 2147483727).1 / 40) 2:Nat):Int)]=eK (((fu b).take (k+1)).map (·.1))∧fA ((fu b).take (k+1))=0:=by
 have hat:=xn hk
 rw [Zz h0] at hat
 have hkR:k<(fu b).length:=by rw [nj];exact hk
 refine ⟨?_,by rw [Ew hkR herr,hat,h]⟩
 rw [Do hk,hat,h0]
 rfl
end
theorem RJ (b:I) (hb:b.length≤1000000):cd gs prog 210 [bc b] (.tup 2 (fl [ap (eU b).1,.err (eU b).2])):=by
 have hrl:=MA b.length b (ZA _)
 have hRl:=nj b
 refine ae 54 func210 fun _ _ _ _=>?_;refine eA ?_
 refine aq (dh (n:=1) CC rfl fun p1=>?_)
 refine aq (dh (n:=1) Wj rfl fun p2=>?_)
 refine U 5231675 ?_;refine an (fun h116=>?_) fun h116=>?_
 ·refine ia ?_;refine lQ (.rd 0 (.one 1 (.one 2 .done))) ?_;refine jy (cK 1) ?_
  refine lP (bn 1 ?_)
  refine lP (bn 1 ?_)
  refine U 8700000 ?_
  refine jR (l9 (eN (hres:=di rfl wi wi) (hv:=?_)))
  have h0:eU b=([],2):=by rw [alx.1 (show b.length=0 by omega),Su]
  exact cT (aa.strL (by rw [h0])) (aa.errN (by rw [h0]))
 refine U 810 ?_
 have hne:b≠[]:=fun e=>by subst e;simp_all
 refine eA ?_
 refine aq (dh (n:=1) Lz rfl fun p3=>?_)
 refine U 1675 ?_
 refine aq (yc (QS b) ?_)
 rintro _ _ ⟨gS,rfl,rfl⟩
 refine U 205 ?_;refine jE (dt 0 (m:=1) (F:=fun _=>ap []) rfl (ZA _) (fun _=>rfl) (fun j hj=>by obtain rfl:j=0:=O;exact Z)) ?_;refine jE (dt 1 (m:=1) (F:=fun _=>.c .nilIface) rfl (ZA _) (fun _=>rfl) (fun j hj=>by obtain rfl:j=0:=O;exact Z)) ?_;refine jE (dt 2 (m:=1) (F:=fun _=>.os 3 none 0 0 1) rfl (ZA _) (fun _=>rfl) (fun j hj=>by obtain rfl:j=0:=O;exact aa.nilO)) ?_;refine jE (f8 (qG [])) ?_;refine yA (π:=List Int×Option Nat) (q:=List Int×Option Nat) ((bI b).length) (fun k=>[bc ((bI b).getD k [])]) ([(gS,.blk 1 (fun _=>bc b))]) (fun (X,ga)=>[(p1,.blk 1 (fun _=>ap [])),(p2,.blk 1 (fun _=>.c .nilIface)),(p3,.blk 1 (fun _=>.os 3 ga 0 X.length 1)),(ga,.blk X.length (qG X))]) (fun k (X,ga)=>X=eK (((fu b).take k).map (·.1))∧fA ((fu b).take k)=0) (fun (X,ga)=>[(p1,.blk 1 (fun _=>ap [])),(p2,.blk 1 (fun _=>.err (fA (fu b)))),(p3,.blk 1 (fun _=>.os 3 ga 0 X.length 1)),(ga,.blk X.length (qG X))]) (fun c _=>c=.ret∧fA (fu b)≠0) (([],none)) [3,0,1,2,4] rfl rfl (by kernel_rfl) (I6 b gS O) (⟨rfl,rfl⟩) jD rfl (fun _ _=>rfl) rfl ?_ ?_ ?_
 ·intro k hk l al2 w2 F2 S2 R0 R1
  rintro ⟨X,ga⟩ ⟨hX,herr⟩
  have hXl:=PM (((fu b).take k).map (·.1))
  rw [← hX,axx,ZK] at hXl
  have hkR:k<(fu b).length:=by omega
  have hrun:0<((bI b).getD k []).length:=Mz b.length b (ZA _) _ (dZ [] hk)
  have hat:=xn hk
  have hX0:X.length>0↔0<k:=⟨fun h=>cwx fun e=>by subst e;rw [hX] at h;simp [eK] at h,fun h=>by have:=hXl.2 (fun e=>by have:=ZV List.length e;rw [axx,ZK,List.length_nil] at this;omega);omega⟩
  refine U 51200 ?_;refine vS ?_;refine U 523506720 ?_;refine an (fun h121=>?_) fun h121=>?_
  ·refine U 16 ?_
   refine aq (ak (Ag ((bI b).getD k []) 2147483647 hrun O) ?_)
   refine U 55000001675119009001 ?_;refine an (fun h123=>?_) fun h123=>?_
   ·refine U 16 ?_
    refine aw (bn 1 ?_)
    refine aw (bn 1 ?_)
    refine U 50003000300070005 ?_;refine ql ((X,ga)) ?_ rfl ?_
    exact ⟨rfl,YN hk O herr (by assumption)⟩
    exact .blk rfl (fun j hj=>by obtain rfl:j=0:=O;exact Z) (.blk rfl (fun j hj=>by obtain rfl:j=0:=O;exact aa.errN (T3 hk O herr (by assumption)).symm) (.same (.same (.same .nil))))
   refine U 1506810 ?_
   refine aq (aM 1 1 rm fun p4=>?_)
   refine aw (aB lf (l2:=[((fI ((bI b).getD k []) 2147483647).1:Int)]) rfl rfl rfl rfl (by exact aqx (ZS _)) (fun _ _=>Z) (aI rfl (.inl rfl) jD) rfl (qH (.cons (cI (rfl)) .nil)) underlying106 oN Ls rm Lv rfl (by (simp;omega)) (by (simp;omega)) (bw rfl rfl) rfl rfl (ZS _) (fun p5=>?_))
   refine aw (bn 1 ?_)
   refine U 4000200060005 ?_;refine rN ((X++[((fI ((bI b).getD k []) 2147483647).1:Int)],p5)) ?_ rfl ?_
   exact Xb hk O hX herr O
   exact .same (.same (.blk rfl (fun j hj=>by obtain rfl:j=0:=O;exact Z) (.same (.same .nil))))
  refine U 16810 ?_
  refine aq (ak (Ag ((bI b).getD k []) 2147483727 hrun O) ?_)
  refine U 55000001675119009001 ?_;refine an (fun h130=>?_) fun h130=>?_
  ·refine U 16 ?_
   refine aw (bn 1 ?_)
   refine aw (bn 1 ?_)
   refine U 5000300070005 ?_;refine ql ((X,ga)) ?_ rfl ?_
   exact ⟨rfl,YO hk O herr (by assumption)⟩
   exact .blk rfl (fun j hj=>by obtain rfl:j=0:=O;exact Z) (.blk rfl (fun j hj=>by obtain rfl:j=0:=O;exact aa.errN (T4 hk O herr (by assumption)).symm) (.same (.same (.same .nil))))
  refine U 810 ?_
  have hbd:=RP ((bI b).getD k []) 2147483727
  refine U 60000016 ?_;refine jq (Ri rfl rfl rfl) ?_;refine U 9911120051 ?_
  refine aq (aM 2 1 rm fun p4=>?_)
  refine aA (ce [0,1,2,5,4] jD rfl) ?_
  refine aw (bn 1 ?_)
  refine U 4005 ?_;refine rN (([((min ((fI ((bI b).getD k []) 2147483727).1 / 40) 2:Nat):Int),((fI ((bI b).getD k []) 2147483727).1:Int)-40 * ((min ((fI ((bI b).getD k []) 2147483727).1 / 40) 2:Nat):Int)],p4)) ?_ rfl ?_
  exact Xc hk O herr O
  exact .same (.same (.blk rfl (fun j hj=>by obtain rfl:j=0:=O;exact cO rfl) (.blk rfl (Qx O O) (.same .nil))))
 ·rintro ⟨X,ga⟩ ⟨hX,herr⟩
  rw [ZY O] at hX herr
  refine U 5068400 ?_;refine aA (freeze 3 rfl) ?_;refine aA (wZ 50 X rfl rfl rfl (bfx (ZA _)) (fun j hj=>Z)) ?_
  refine aq (ak (Nm X) ?_)
  refine U 900900 ?_
  refine aw (bn 1 ?_)
  refine aw (bn 1 ?_)
  refine U 5 ?_
  refine jR (eN (hres:=di rfl wi wi) (hv:=?_))
  have hg:=OK hne herr
  rw [← hX] at hg
  exact cT (aa.strL (by rw [hg])) (aa.errN (by rw [hg]))
 ·rintro _ ⟨X,ga⟩ ⟨rfl,hbad⟩
  refine .inl ⟨rfl,?_⟩
  refine Oh (l9 (eN (hres:=di rfl wi wi) (hv:=?_)))
  have hb:=Sv hne hbad
  exact cT (aa.strL (by rw [hb])) (aa.errN (by rw [hb]))
end
section
variable {gs:List Nat} [ib gs]
open Go.RowKit Cal
end
section
open Go.RowKit Cal
def dg (b:I) (i:Nat):Int:=((b.getD i 0).toNat:Int)-48
def Ks (b:I) (i:Nat):Prop:=48≤((b.getD i 0).toNat:Int)∧((b.getD i 0).toNat:Int)≤57
instance (b:I) (i:Nat):Decidable (Ks b i):=by unfold Ks;infer_instance
def two (b:I) (j:Nat):Int:=10 * dg b (2 * j)+dg b (2 * j+1)
def eR (b:I):D6:=⟨100 * two b 0+two b 1,two b 2,two b 3,two b 4,two b 5,two b 6⟩
def yi (b:I):Prop:=b.length=15∧((b.getD 14 0).toNat:Int)=90∧∀ i,i<14→Ks b i
instance (b:I):Decidable (yi b):=by unfold yi;infer_instance
def El (b:I):Nat:=if yi b then (if gZ (eR b) then 0 else 1) else 4
def wj (b:I):Int:=if yi b∧gZ (eR b) then uq (eR b) else 0
theorem Ik {x:D6} (h:gZ x):(∀ i,i<14→Ks (eJ x) i)∧eR (eJ x)=x:=by
 have ⟨q1,q2,q3,q4,q5,q6,q7,q8,q9,q10⟩:=id h
 have qm:=pR q3 q4
 have qd:=wL x.y x.m
 have q:∀ n p:Int,0≤n→1≤p→((kJ n p).toNat:Int)=48+n / p % 10:=fun n p hn hp=>yk (Int.ediv_nonneg hn O)
 have e:∀ i,i<14→∃ n p:Int,(eJ x).getD i 0=kJ n p∧0≤n∧1≤p:=by
  intro i hi
  rcases i with _|_|_|_|_|_|_|_|_|_|_|_|_|_|i
  exact ⟨x.y,1000,rfl,by omega,by omega⟩
  exact ⟨x.y,100,rfl,by omega,by omega⟩
  exact ⟨x.y,10,rfl,by omega,by omega⟩
  exact ⟨x.y,1,rfl,by omega,by omega⟩
  exact ⟨x.m,10,rfl,by omega,by omega⟩
  exact ⟨x.m,1,rfl,by omega,by omega⟩
  exact ⟨x.d,10,rfl,by omega,by omega⟩
  exact ⟨x.d,1,rfl,by omega,by omega⟩
  exact ⟨x.h,10,rfl,by omega,by omega⟩
  exact ⟨x.h,1,rfl,by omega,by omega⟩
  exact ⟨x.mi,10,rfl,by omega,by omega⟩
  exact ⟨x.mi,1,rfl,by omega,by omega⟩
  exact ⟨x.s,10,rfl,by omega,by omega⟩
  exact ⟨x.s,1,rfl,by omega,by omega⟩
  omega
 refine ⟨fun i hi=>?_,?_⟩
 ·have ⟨n,p,h1,h2,h3⟩:=e i hi
  unfold Ks
  rw [h1,q n p h2 h3]
  omega
 ·have dd:∀ (i:Nat) (n p:Int),(eJ x).getD i 0=kJ n p→0≤n→1≤p→dg (eJ x) i=n / p % 10:=fun i n p h1 h2 h3=>by
   unfold dg
   rw [h1,q n p h2 h3]
   omega
  have t0:two (eJ x) 0=10 * (x.y / 1000 % 10)+x.y / 100 % 10:=by unfold two;rw [dd (2 * 0) x.y 1000 rfl O O,dd (2 * 0+1) x.y 100 rfl O O]
  have t1:two (eJ x) 1=10 * (x.y / 10 % 10)+x.y / 1 % 10:=by unfold two;rw [dd (2 * 1) x.y 10 rfl O O,dd (2 * 1+1) x.y 1 rfl O O]
  have t2:two (eJ x) 2=x.m:=by unfold two;rw [dd (2 * 2) x.m 10 rfl O O,dd (2 * 2+1) x.m 1 rfl O O];omega
  have t3:two (eJ x) 3=x.d:=by unfold two;rw [dd (2 * 3) x.d 10 rfl O O,dd (2 * 3+1) x.d 1 rfl O O];omega
  have t4:two (eJ x) 4=x.h:=by unfold two;rw [dd (2 * 4) x.h 10 rfl O O,dd (2 * 4+1) x.h 1 rfl O O];omega
  have t5:two (eJ x) 5=x.mi:=by unfold two;rw [dd (2 * 5) x.mi 10 rfl O O,dd (2 * 5+1) x.mi 1 rfl O O];omega
  have t6:two (eJ x) 6=x.s:=by unfold two;rw [dd (2 * 6) x.s 10 rfl O O,dd (2 * 6+1) x.s 1 rfl O O];omega
  unfold eR
  rw [t0,t1,t2,t3,t4,t5,t6]
  have:100 * (10 * (x.y / 1000 % 10)+x.y / 100 % 10)+(10 * (x.y / 10 % 10)+x.y / 1 % 10)=x.y:=by omega
  rw [this]
theorem Ek {x:D6} (h:gZ x):El (eJ x)=0∧wj (eJ x)=uq x:=by
 have hf:yi (eJ x):=⟨rfl,by show (((90:UInt8).toNat:Nat):Int)=90;rfl,(Ik h).1⟩
 have hg:=(Ik h).2
 unfold El wj
 rw [hg,Zz hf,Zz h,Zz ⟨hf,h⟩]
 exact ⟨rfl,rfl⟩
def nK (x:D6):List Int:=[x.y / 100,x.y % 100,x.m,x.d,x.h,x.mi,x.s]
def w6 (x:D6) (i:Nat):I:=((nK x).take i).flatMap fun n=>[kJ n 10,kJ n 1]
theorem LX {x:D6} (h1:0≤x.y) (h2:x.y≤9999):w6 x 7++[90]=eJ x:=by
 have e1:kJ (x.y / 100) 10=kJ x.y 1000:=by unfold kJ;congr 2;omega
 have e2:kJ (x.y / 100) 1=kJ x.y 100:=by unfold kJ;congr 2;omega
 have e3:kJ (x.y % 100) 10=kJ x.y 10:=by unfold kJ;congr 2;omega
 have e4:kJ (x.y % 100) 1=kJ x.y 1:=by unfold kJ;congr 2;omega
 simp [w6,nK,eJ,Gw,e1,e2,e3,e4]
theorem zJ {x:D6} {i:Nat} (h:i<(nK x).length):w6 x (i+1)=w6 x i++[kJ ((nK x).getD i 0) 10,kJ ((nK x).getD i 0) 1]:=by
 have e:(nK x).take (i+1)=(nK x).take i++[(nK x).getD i 0]:=by
  rw [ZH h]
  simp [List.getD,h]
 unfold w6
 rw [e,ctx]
 simp
theorem CY (x:D6) {i:Nat} (h:i≤7):(w6 x i).length=2 * i:=by
 rcases i with _|_|_|_|_|_|_|_|i<;>simp [w6,nK]<;>omega
end
section
variable {gs:List Nat} [ib gs]
open Go.RowKit Cal
theorem Is {N y:Int} (h0:0≤N) (h1:N≤2932896) (hy:1970≤y) (hb:bf y≤N):y≤9999:=by
 refine byx fun hn=>?_
 have:=oH (a:=10000) (b:=y) O
 have e:bf 10000=2932897:=by decide
 omega
theorem Q2 {gs:List Nat} (t:Int) (h:yV t):cd gs prog 182 [.c (.int .i64 t)] (TZ (BT t)):=by
 have ⟨r1,r2⟩:=id h
 obtain ⟨N,hN⟩:∃ N,N=t / 86400:=⟨_,rfl⟩
 have n0:0≤N:=by omega
 have n1:N≤2932896:=by omega
 refine ae 52 func182 fun _ _ _ _=>?_;refine eA ?_
 refine aq (dh (n:=6) Ly rfl fun p1=>?_)
 refine U 10000001100000060000011000000600000165 ?_;refine jq (au (n:=6) rfl Ly WX rfl rfl) ?_
 refine aq (dh (n:=6) Ly rfl fun p2=>?_)
 refine aw (bn 6 ?_)
 refine U 20751600000165 ?_;refine ar (α:=Int) [4,5,17,18,19,20,21,22,23,24,25,26,27,28,29] (fun y=>[(4,.c (.int .i64 (N-bf y)))]) (fun y=>[(p1,.blk 6 (dF D6.zero)),(p2,.blk 6 (dF ⟨y,1,0,t / 3600 % 24,t / 60 % 60,t % 60⟩))]) (fun y=>1970≤y∧bf y≤N) (fun y=>(10000-y).toNat) (1970) ?_ (fun _=>rfl) ?_ ?_ ?_
 exact ⟨by omega,by rw [wO];exact n0⟩
 exact .cons (cI (by rw [wO];omega)) .nil
 ·(repeat (first|exact aD.nil|refine aD.blk rfl (fun j hj=>by rcases j with _|_|_|_|_|_|_|_|j<;>first|exact Z|omega) ?_))
 ·rintro y ⟨hy,hb⟩
  have hy9:=Is n0 n1 hy hb
  have hs:=Il y
  have hbd:=XM y hy O
  refine U 50906751620 ?_
  refine aq (ak (Dk _) ?_)
  refine U 5 ?_;refine aaa (fun h62=>?_) fun h62=>?_
  ·refine U 521167810 ?_;refine aaa (fun h65=>?_) fun h65=>?_
   ·refine U 9095090200519116810 ?_
    refine aw (bn 1 ?_)
    refine U 84005 ?_
    refine am (y+1) ?_ ?_ (h5:=?_)
    exact ⟨by omega,by simp only [*,aYx,if_false] at hs;omega⟩
    omega
    exact .cons (cI (by simp only [*,aYx,if_false] at hs;omega)) .nil
   refine U 2078400020008000020006000 ?_;refine ar (α:=Int) [4,30,31,32,33,34,35,36,37,38,39,40,41,42,43,44,45,46,47] (fun m=>[(4,.c (.int .i64 (N-bf y-sv y m)))]) (fun m=>[(p1,.blk 6 (dF D6.zero)),(p2,.blk 6 (dF ⟨y,m,0,t / 3600 % 24,t / 60 % 60,t % 60⟩))]) (fun m=>1≤m∧m≤12∧sv y m≤N-bf y) (fun m=>(13-m).toNat) (1) ?_ (fun _=>rfl) ?_ ?_ ?_
   exact ⟨by omega,by omega,by rw [wM];omega⟩
   exact .cons (cI (by rw [wM];omega)) .nil
   ·(repeat (first|exact aD.nil|refine aD.same ?_))
   ·rintro m ⟨m1,m2,hc⟩
    have hcb:=Cn y m m1 O
    have hcs:=tS y m m1 m2
    have hdd:=wL y m
    have hc13:=Co y
    have hm13:m=12→sv y (m+1)=sv y 13:=fun h=>by rw [h];rfl
    refine U 501005090167 ?_
    refine aq (ak (sV _ _) ?_)
    refine U 52 ?_;refine an (fun h71=>?_) fun h71=>?_
    ·refine U 5010050901620810 ?_
     refine aq (ak (sV _ _) ?_)
     refine U 100950100200519 ?_
     refine aw (bn 1 ?_)
     refine U 84005 ?_
     refine am (m+1) ?_ ?_ (h5:=?_)
     ·exact ⟨by omega,by refine byx fun hn=>?_;have:=hm13 O;dsimp only at *;simp only [*,aYx,if_false] at hs;omega,by dsimp only at *;omega⟩
     omega
     exact .cons (cI (by dsimp only at *;omega)) .nil
    refine U 100091684000200020006000 ?_
    refine aw (bn 1 ?_)
    refine U 65 ?_;refine kj (bD 6) ?_
    refine aw (bn 6 ?_)
    refine U 5 ?_
    refine jR (eN (hres:=aK rfl (f5 6)) (hv:=?_))
    have hR:gZ ⟨y,m,N-bf y-sv y m+1,t / 3600 % 24,t / 60 % 60,t % 60⟩:=by
     unfold gZ
     dsimp only at *
     omega
    have hS:uq ⟨y,m,N-bf y-sv y m+1,t / 3600 % 24,t / 60 % 60,t % 60⟩=t:=by
     unfold uq dn
     dsimp only
     clear hcs hcb hc13 hs hbd hR
     omega
    have e:=FT hR
    rw [hS] at e
    rw [e]
    exact aa.agg6 Z Z Z Z Z Z
  refine U 521167851200 ?_;refine aaa (fun h65=>?_) fun h65=>?_
  ·refine U 9095090200519116810 ?_
   refine aw (bn 1 ?_)
   refine U 84005 ?_
   refine am (y+1) ?_ ?_ (h5:=?_)
   exact ⟨by omega,by simp only [*,if_true] at hs;omega⟩
   omega
   exact .cons (cI (by simp only [*,if_true] at hs;omega)) .nil
  refine U 2078400020008000020006000 ?_;refine ar (α:=Int) [4,30,31,32,33,34,35,36,37,38,39,40,41,42,43,44,45,46,47] (fun m=>[(4,.c (.int .i64 (N-bf y-sv y m)))]) (fun m=>[(p1,.blk 6 (dF D6.zero)),(p2,.blk 6 (dF ⟨y,m,0,t / 3600 % 24,t / 60 % 60,t % 60⟩))]) (fun m=>1≤m∧m≤12∧sv y m≤N-bf y) (fun m=>(13-m).toNat) (1) ?_ (fun _=>rfl) ?_ ?_ ?_
  exact ⟨by omega,by omega,by rw [wM];omega⟩
  exact .cons (cI (by rw [wM];omega)) .nil
  ·(repeat (first|exact aD.nil|refine aD.same ?_))
  ·rintro m ⟨m1,m2,hc⟩
   have hcb:=Cn y m m1 O
   have hcs:=tS y m m1 m2
   have hdd:=wL y m
   have hc13:=Co y
   have hm13:m=12→sv y (m+1)=sv y 13:=fun h=>by rw [h];rfl
   refine U 501005090167 ?_
   refine aq (ak (sV _ _) ?_)
   refine U 52 ?_;refine an (fun h71=>?_) fun h71=>?_
   ·refine U 5010050901620810 ?_
    refine aq (ak (sV _ _) ?_)
    refine U 100950100200519 ?_
    refine aw (bn 1 ?_)
    refine U 84005 ?_
    refine am (m+1) ?_ ?_ (h5:=?_)
    ·exact ⟨by omega,by refine byx fun hn=>?_;have:=hm13 O;dsimp only at *;simp only [*,if_true] at hs;omega,by dsimp only at *;omega⟩
    omega
    exact .cons (cI (by dsimp only at *;omega)) .nil
   refine U 100091684000200020006000 ?_
   refine aw (bn 1 ?_)
   refine U 65 ?_;refine kj (bD 6) ?_
   refine aw (bn 6 ?_)
   refine U 5 ?_
   refine jR (eN (hres:=aK rfl (f5 6)) (hv:=?_))
   have hR:gZ ⟨y,m,N-bf y-sv y m+1,t / 3600 % 24,t / 60 % 60,t % 60⟩:=by
    unfold gZ
    dsimp only at *
    omega
   have hS:uq ⟨y,m,N-bf y-sv y m+1,t / 3600 % 24,t / 60 % 60,t % 60⟩=t:=by
    unfold uq dn
    dsimp only
    clear hcs hcb hc13 hs hbd hR
    omega
   have e:=FT hR
   rw [hS] at e
   rw [e]
   exact aa.agg6 Z Z Z Z Z Z
theorem Up {x:D6} (h:gZ x) {i:Nat} (hi:i<(nK x).length):0≤(nK x).getD i 0∧(nK x).getD i 0≤99:=by
 have ⟨q1,q2,q3,q4,q5,q6,q7,q8,q9,q10⟩:=id h
 have:=wL x.y x.m
 have qm:=pR q3 q4
 rcases i with _|_|_|_|_|_|_|i
 show 0≤x.y / 100∧x.y / 100≤99;omega
 show 0≤x.y % 100∧x.y % 100≤99;omega
 show 0≤x.m∧x.m≤99;omega
 show 0≤x.d∧x.d≤99;omega
 show 0≤x.h∧x.h≤99;omega
 show 0≤x.mi∧x.mi≤99;omega
 show 0≤x.s∧x.s≤99;omega
 ·simp [nK] at hi;omega
theorem Jc {gs:List Nat} (x:D6) (h:gZ x):cd gs prog 181 [TZ x] (bc (eJ x)):=by
 have ⟨q1,q2,_⟩:=id h
 refine ae 44 func181 fun _ _ _ _=>?_;refine eA ?_
 refine aq (ee 6 fun p1=>?_)
 refine U 651 ?_
 refine aq (aM 0 1 da fun p2=>?_)
 refine U 506000000507000000505000000501000501001000000509060000050906751 ?_
 refine aq (aM 7 1 rm fun p3=>?_)
 refine U 20513 ?_;refine ar (α:=Nat×Option Nat) [3,5,25,26,27,28,29,30,31,32,33,34,35,36,37,38,39,40] (fun (i,g)=>[(3,.os 1 g 0 (w6 x i).length 1),(25,.c (.int .i64 (i:Nat)))]) (fun (i,g)=>[(p1,.blk 6 (dF x)),(g,.blk (w6 x i).length (aV (w6 x i))),(p3,.blk 7 (qG (nK x)))]) (fun i=>i.1≤7) (fun i=>7-i.1) ((0,p2)) ?_ (fun _=>rfl) ?_ ?_ ?_
 ·simp
 ·(repeat (first|exact bh.nil|refine bh.cons Z ?_))
 ·exact .blk rfl (fun j hj=>by rcases j with _|_|_|_|_|_|j<;>first|exact Z|omega) (.blk rfl (fun j hj=>absurd hj (by show ¬ j<0;omega)) (.blk rfl (fun j hj=>tB (nK x) j hj) .nil))
 ·rintro ⟨i,g'⟩ (hi:i≤7)
  refine U 7526 ?_;refine aaa (fun h82=>?_) fun h82=>?_
  ·refine U 84000200020006000 ?_
   have hlen:=CY x hi
   have hi7:i=7:=by omega
   refine U 16 ?_
   refine aq (aM 1 1 da fun p4=>?_)
   refine aw (ay (l2:=[90]) rfl rfl rfl (ZA _) (fun _ _=>Z) (aI rfl (.inl rfl) jD) rfl (bz (.cons (cI (rfl)) .nil)) underlying23 dV fR da jt rfl (by (simp;omega)) (cp rfl rfl) rfl rfl (fun p5=>?_))
   refine U 51 ?_;refine jE (freeze 1 rfl) ?_;refine jE (er 2 (w6 x i++[90]) rfl rfl (by rfl) rfl) ?_;refine U 80007000 ?_
   subst hi7
   rw [← LX O q2]
   exact Z
  refine U 51507006207810 ?_
  have hlt:i<(nK x).length:=by simp [nK];omega
  have hb:=Up h hlt
  have hlen:=CY x hi
  refine U 800000910000001800000960000011200 ?_
  refine aq (aM 2 1 da fun p4=>?_)
  refine aw (ay (l2:=[kJ ((nK x).getD i 0) 10,kJ ((nK x).getD i 0) 1]) rfl rfl rfl (ZA _) (fun _ _=>Z) (aI rfl (.inl rfl) jD) rfl (bz (.cons (cI ((by rw [yk O];show _=48+_;omega))) (.cons (cI ((by rw [yk O];omega))) .nil))) underlying23 dV fR da jt rfl (by (simp;omega)) (cp rfl rfl) rfl rfl (fun p5=>?_))
  refine U 8519200840051 ?_
  refine am ((i+1,p5)) ?_ ?_ (h5:=?_) (h7:=?_)
  omega
  omega
  ·simp only [zJ hlt]
   (repeat (first|exact bh.nil|refine bh.cons Z ?_))
  ·simp only [zJ hlt]
   (repeat (first|exact aD.nil|refine aD.same ?_))
end
section
variable {gs:List Nat} [ib gs]
theorem Gv (n:Nat) (l:Zx) (k:Nat) (hl:0<l.length∧l.length≤1000000) (hb:(cc l).length≤10000000) :
  AC gs prog 60 [eo n l k] [.op 0 (some n) 0]
   (fun r H'=>r=.c (.int .i64 (if (aj 3 l k).is=true∧(bW (aj 3 l k).body).2=0 then (((bW (aj 3 l k).body).1:Nat):Int) else 0))∧H'=[eo n (aj 3 l k).l (gM 3 l k fun b=>(bW b).2)]):=by
 refine ae 5 func60 fun _ _ _ _=>?_;refine U 16516 ?_
 refine aw (aN 0 (zG (m:=0) (fv:=fun _=>.top) (by kernel_rfl) n l k 3 (fun b=>(((bW b).1:Nat),(bW b).2)) hl hb (fun b _=>LW b)) ?_ (ho:=rfl) (he:=(.cons (se rfl cP) (.cons (se rfl Z) (.cons (se rfl aa.fn0) .nil)))))
 refine U 700051 ?_
 exact bR (.inl rfl) rfl (aK rfl (ai rfl)) Z
theorem Nr (n:Nat) (l:Zx) (k:Nat) (hl:0<l.length∧l.length≤1000000) (hb:(cc l).length≤10000000) :
  AC gs prog 170 [eo n l k] [.op 0 (some n) 0]
   (fun r H'=>r=ap (if (aj 6 l k).is=true∧(eU (aj 6 l k).body).2=0 then (eU (aj 6 l k).body).1 else [])∧H'=[eo n (aj 6 l k).l (gM 6 l k fun b=>(eU b).2)]):=by
 refine ae 5 func170 fun _ _ _ _=>?_;refine U 16516 ?_
 refine aw (aN 0 (zF (m:=0) (fv:=fun _=>.top) (by kernel_rfl) n l k 6 eU hl hb (fun b h=>RJ b O)) ?_ (ho:=rfl) (he:=(.cons (se rfl cP) (.cons (se rfl Z) (.cons (se rfl aa.fn0) .nil)))))
 refine U 700051 ?_
 exact bR (.inl rfl) rfl (aK rfl (ai rfl)) Z
def lJ (least most:Int) (b:I):I×Nat:=if (b.length:Int)<least then ([],2) else if most<(b.length:Int) then ([],3) else (b,0)
theorem DH (n:Nat) (l:Zx) (k:Nat) (least most:Int) (hl:0<l.length∧l.length≤1000000) (hb:(cc l).length≤10000000) :
  AC gs prog 59 [eo n l k] [.op 0 (some n) 0,.c (.int .i64 least),.c (.int .i64 most)]
   (fun r H'=>r=bc (if (aj 4 l k).is=true∧(lJ least most (aj 4 l k).body).2=0 then (lJ least most (aj 4 l k).body).1 else [])∧H'=[eo n (aj 4 l k).l (gM 4 l k fun b=>(lJ least most b).2)]):=by
 have g:∀ b:I,cd gs prog 123 (bc b::(List.range 2).map (Qy least most)) (.tup 2 (fl [bc (lJ least most b).1,.err (lJ least most b).2])):=fun b=>by
  refine ae 19 func123 fun al w0 F0 St0=>?_;refine U 512603162075116 ?_;refine an (fun h260=>?_) fun h260=>?_
  ·refine ia ?_;refine dQ (.rd 0 (.rd 1 (.rd 2 .done))) ?_;refine aJ (cK 1) ?_;refine U 80003000500070008807070 ?_
   have e:lJ least most b=([],2):=by unfold lJ;rw [jP]
   rw [e]
   exact cT cN Z
  refine U 51260316 ?_;refine aaa (fun h262=>?_) fun h262=>?_
  ·refine U 8000700051116840010 ?_
   have e:lJ least most b=(b,0):=by unfold lJ;rw [jK,jK]
   rw [e]
   exact cT Z aa.nil
  refine ia ?_;refine dQ (.rd 0 (.rd 1 (.rd 2 .done))) ?_;refine aJ (cK 2) ?_;refine U 80003000500070008807070 ?_
  have e:lJ least most b=([],3):=by unfold lJ;rw [jK,jP]
  rw [e]
  exact cT cN Z
 refine ae 10 func59 fun al w0 F0 St0=>?_;refine eA ?_
 refine aq (ee 1 fun p1=>?_)
 refine aq (ee 1 fun p2=>?_)
 refine U 51 ?_;refine jE (freeze 1 rfl) ?_;refine jE (freeze 2 rfl) ?_;refine jE (lH 4 (m:=1) rfl rfl jD) ?_;refine jE (lH 5 (m:=1) rfl rfl jD) ?_;refine U 16 ?_;refine jq Of ?_
 refine aw (aN 0 (IB (fv:=Qy least most) (by kernel_rfl) n l k 4 (lJ least most) hl hb (fun b _=>g b)) ?_ (ho:=rfl) (he:=(.cons (se rfl cP) (.cons (se rfl Z) (.cons (se rfl (aa.fn2' (aa.rp tu) (aa.rp tu))) .nil)))))
 refine U 700051 ?_
 exact bR (.inl rfl) rfl (aK rfl (ai rfl)) Z
theorem IF [rz gs] (n:Nat) (l:Zx) (k:Nat) (most:Int) (hl:0<l.length∧l.length≤1000000) (hb:(cc l).length≤10000000) :
  AC gs prog 64 [eo n l k] [.op 0 (some n) 0,.c (.int .i64 most)]
   (fun r H'=>r=ap (if (aj 12 l k).is=true∧az (aj 12 l k).body most=0 then (if az (aj 12 l k).body most=0 then (aj 12 l k).body else []) else [])∧H'=[eo n (aj 12 l k).l (gM 12 l k fun b=>az b most)]):=by
 have g:∀ b:I,b.length≤65530→cd gs prog 130 (bc b::(List.range 1).map (fl [.rp 1 fun _=>.c (.int .i64 most)])) (.tup 2 (fl [ap (if az b most=0 then b else []),.err (az b most)])):=fun b hb=>by
  refine ae 10 func130 fun al w0 F0 St0=>?_;refine U 60165116 ?_
  refine aq (ak (Qh b most O) ?_)
  refine U 511900900 ?_
  refine jR eN
 refine ae 8 func64 fun al w0 F0 St0=>?_;refine eA ?_
 refine aq (ee 1 fun p1=>?_)
 refine U 51 ?_;refine jE (freeze 1 rfl) ?_;refine jE (lH 3 (m:=1) rfl rfl jD) ?_;refine U 16 ?_;refine jq Of ?_
 refine aw (aN 0 (zF (fv:=fl [.rp 1 fun _=>.c (.int .i64 most)]) (by kernel_rfl) n l k 12 (fun b=>(if az b most=0 then b else [],az b most)) hl hb g) ?_ (ho:=rfl) (he:=(.cons (se rfl cP) (.cons (se rfl Z) (.cons (se rfl (aa.fn1 (aa.rp tu))) .nil)))))
 refine U 700051 ?_
 exact bR (.inl rfl) rfl (aK rfl (ai rfl)) Z
end
section
variable {gs:List Nat} [ib gs]
open Go.RowKit Cal
structure AA where
 kind:Int
 tag:Int
 least:Int
 most:Int
def vN (n:Int):VV:=⟨0,n,false,[],[]⟩
def vI (b:Bool):VV:=⟨0,0,b,[],[]⟩
def vB (b:I):VV:=⟨0,0,false,b,[]⟩
def vT (t:I):VV:=⟨0,0,false,[],t⟩
def saidM (a:AA) (b:I):VV×Nat :=
 if a.kind=3 then (vN (cq b a.least a.most).1,(cq b a.least a.most).2) else
 if a.kind=4 then (vN (cq b a.least a.most).1,(cq b a.least a.most).2) else
 if a.kind=5 then (vI (HQ b).1,(HQ b).2) else
 if a.kind=6 then (vB (lJ a.least a.most b).1,(lJ a.least a.most b).2) else
 if a.kind=7 then (vT (if az b a.most=0 then b else []),az b a.most) else
 if a.kind=8 then (vT (eU b).1,(eU b).2) else
 if a.kind=9 then (vN (wj b),El b) else (vN ((bW b).1:Nat),(bW b).2)
def kR (a:AA):Int:=if a.kind=3 then 2 else if a.kind=4 then 10 else if a.kind=5 then 1 else if a.kind=6 then 4 else if a.kind=7 then 12 else if a.kind=8 then 6 else if a.kind=9 then 24 else 3
structure YR where
 l:Zx
 k:Nat
 v:VV
def vt (tag:Int) (said:I→VV×Nat) (l:Zx) (k:Nat):YR :=
 ⟨(aj tag l k).l,gM tag l k fun b=>(said b).2,if (aj tag l k).is=true∧(said (aj tag l k).body).2=0 then (said (aj tag l k).body).1 else VV.none⟩
def ac (a:AA) (l:Zx) (k:Nat):YR :=
 if a.kind=1 then ⟨af a.tag l k,(ab a.tag l k).k,vI (ab a.tag l k).is⟩ else
 if a.kind=2 then ⟨bm l k,ba l k,VV.none⟩ else
 if a.kind=11 then ⟨(aj 0 l k).l,(aj 0 l k).k,vB (aj 0 l k).raw⟩ else vt (kR a) (saidM a) l k
theorem sU {α:Type} (c:α→VV) (z:α) (hz:c z=VV.none) {a:AA} {l:Zx} {k:Nat} {t:Int} {f:I→α×Nat} (h1:a.kind≠1) (h2:a.kind≠2) (h3:a.kind≠11) (hs:saidM a=fun b=>(c (f b).1,(f b).2)) (ht:kR a=t) :
  ac a l k=⟨(aj t l k).l,gM t l k fun b=>(f b).2,c (if (aj t l k).is=true∧(f (aj t l k).body).2=0 then (f (aj t l k).body).1 else z)⟩:=by
 subst ht
 unfold ac
 rw [Zy h1,Zy h2,Zy h3]
 unfold vt
 rw [hs]
 simp only
 split
 rfl
 ·rw [hz]
end
section
open Go.RowKit Cal
def eB (l:Zx) (k:Nat):Nat:=cw l+if k=0 then 1 else 0
theorem sE (x:I):∀ {l:Zx} {i:Nat},i<l.length→cw (l.set i x)+(l.getD i []).length=cw l+x.length
 | y::l,0,_=>by simp only [List.set_cons_zero,aLx,cw,Z6,cIx];omega
 | y::l,i+1,h=>by
  have:=sE x (l:=l) (i:=i) (by simpa using h)
  simp only [List.set_cons_succ,aTx,cw,Z6,cIx] at this ⊢
  omega
theorem wy (l:Zx):(cc l).length≤cw l:=by
 unfold cc
 by_cases h:l.length-1<l.length
 ·have:=sE [] h
  simp only [List.length_nil] at this
  omega
 ·rw [ZB,Z0 O]
  simp
theorem wz {t:Int} {l:Zx} {k:Nat} (hl:0<l.length):(k≠0→aj t l k=⟨l,k,0,[],[],false⟩)∧(aj t l k).l.length=l.length∧eB (aj t l k).l (aj t l k).k≤eB l k∧(k=0→eB (aj t l k).l (aj t l k).k<eB l k) ∧
  ((aj t l k).is=true↔(aj t l k).k=0)∧((aj t l k).is=true→k=0)∧((aj t l k).is=false→(aj t l k).l=l):=by
 have hb:=gT (cc l)
 have hs:=sE (ah (cc l)).rest (show l.length-1<l.length by omega)
 unfold aj
 by_cases h0:k≠0
 ·rw [Zz h0]
  exact ⟨fun _=>rfl,rfl,ZA _,fun h=>absurd h h0,by simp [h0],by simp,fun _=>rfl⟩
 ·have hk:k=0:=by omega
  subst hk
  rw [Zy h0]
  by_cases h1:(ah (cc l)).e≠0
  ·rw [Zz h1]
   refine ⟨fun h=>absurd rfl h,rfl,?_,fun _=>?_,by simp [h1],by simp,fun _=>rfl⟩<;>(unfold eB;dsimp only;rw [Zy h1];simp)
  ·rw [Zy h1]
   by_cases h2:t≠0∧((ah (cc l)).tag:Int)≠t
   ·rw [Zz h2]
    refine ⟨fun h=>absurd rfl h,rfl,?_,fun _=>?_,by simp,by simp,fun _=>rfl⟩<;>(unfold eB;dsimp only;rw [Zy jD];simp)
   ·rw [Zy h2]
    have hr:=hb.2.2.2.2.2 O
    have e:(l.getD (l.length-1) []).length=(cc l).length:=rfl
    refine ⟨fun h=>absurd rfl h,by simp,?_,fun _=>?_,by simp,by simp,fun h=>absurd h (by simp)⟩<;>(unfold eB;dsimp only;rw [Zz rfl];omega)
theorem J6 (b:I) (h:(ah b).e=0):(ah b).body.length+(ah b).rest.length<b.length:=by
 have hm:=rY (b.drop 1)
 revert h
 unfold ah
 by_cases h0:b.length=0
 ·rw [Zz h0];intro h;cases h
 ·rw [Zy h0]
  by_cases h1:bH ((b.getD 0 0).toNat:Nat)=false
  ·rw [Zz h1];intro h;cases h
  ·rw [Zy h1]
   dsimp only
   by_cases h2:(cm (b.drop 1)).e≠0
   ·rw [Zz h2];intro h;exact absurd h h2
   ·rw [Zy h2]
    by_cases h3:65530<(cm (b.drop 1)).n
    ·rw [Zz h3];intro h;cases h
    ·rw [Zy h3]
     by_cases h4:(cm (b.drop 1)).rest.length<(cm (b.drop 1)).n
     ·rw [Zz h4];intro h;cases h
     ·rw [Zy h4]
      intro _
      have:=hm.1
      rw [ZI] at this
      simp only [ZK,ZI]
      omega
theorem f7 {t:Int} {l:Zx} {k:Nat} (hl:0<l.length):(k≠0→af t l k=l∧(ab t l k).k=k)∧eB (af t l k) (ab t l k).k≤eB l k∧(k=0→eB (af t l k) (ab t l k).k<eB l k) ∧
  ((ab t l k).k=0→(af t l k).length=l.length+1)∧((ab t l k).k≠0→(af t l k).length=l.length)∧((ab t l k).is=true↔(ab t l k).k=0):=by
 have hq:∀ q,q=(if dq l k=true∧bO t=false then 5 else k)→(k≠0→q=k)∧(k=0→q=0∨q=5):=by
  rintro _ rfl
  refine ⟨fun h=>Zy ?_,fun h=>?_⟩
  ·rintro ⟨h1,_⟩
   unfold dq at h1
   simp [h] at h1
  ·subst h;split<;>simp
 unfold af ab
 generalize hk:(if dq l k=true∧bO t=false then 5 else k)=q
 have ⟨q1,q2⟩:=hq q hk.symm
 obtain ⟨n1,n2,n3,n4,n5,n6,n7⟩:=wz (t:=t) (l:=l) (k:=q) hl
 by_cases hi:(aj t l q).is=true
 ·have hk0:=n5.1 hi
  have hq0:=n6 hi
  subst hq0
  have hkz:k=0:=by rcases btx k with h|h;exact h;exact (q1 O).symm
  subst hkz
  have hb:eB ((aj t l 0).l++[(aj t l 0).body]) (aj t l 0).k<eB l 0:=by
   rw [hk0]
   revert hi
   unfold aj
   rw [Zy jD]
   by_cases h1:(ah (cc l)).e≠0
   ·rw [Zz h1];intro h;cases h
   ·rw [Zy h1]
    by_cases h2:t≠0∧((ah (cc l)).tag:Int)≠t
    ·rw [Zz h2];intro h;cases h
    ·rw [Zy h2]
     intro _
     have h3:=J6 (cc l) O
     have h4:=sE (ah (cc l)).rest (show l.length-1<l.length by omega)
     have e:(l.getD (l.length-1) []).length=(cc l).length:=rfl
     unfold eB
     dsimp only
     rw [sH,Zz rfl]
     simp only [cw,Z6,bqx,cIx,List.sum_nil] at h4 ⊢
     omega
  rw [Zz hi]
  refine ⟨fun h=>absurd rfl h,by omega,fun _=>hb,fun _=>by rw [ZD,n2];rfl,fun h=>absurd hk0 h,n5⟩
 ·have hi':(aj t l q).is=false:=by simpa using hi
  have hl':=n7 hi'
  have hk0:(aj t l q).k≠0:=fun h=>hi (n5.2 h)
  rw [Zy hi,hl']
  refine ⟨fun h=>⟨rfl,?_⟩,?_,fun h=>?_,fun h=>absurd h hk0,fun _=>rfl,n5⟩
  ·have hq:=q1 h
   rw [n1 O]
   exact hq
  ·unfold eB;rw [Zy hk0];simp
  ·unfold eB;rw [Zy hk0,Zz h];simp
theorem lN {l:Zx} {k:Nat} (hl:0<l.length):(k≠0→bm l k=l∧ba l k=k)∧eB (bm l k) (ba l k)≤eB l k∧(ba l k=0→k=0∧(bm l k).length+1=l.length∧1<l.length)∧(ba l k≠0→bm l k=l):=by
 have hk:(k≠0→ba l k=k):=fun h=>by unfold ba;rw [Zz h]
 have h0:ba l k=0→k=0∧1<l.length:=fun h=>by
  unfold ba at h
  by_cases h1:k≠0
  ·rw [Zz h1] at h;exact absurd h h1
  ·rw [Zy h1] at h
   by_cases h2:l.length=1
   ·rw [Zz h2] at h;cases h
   exact ⟨by omega,by omega⟩
 refine ⟨fun h=>⟨by unfold bm;rw [hk h,Zy h],hk h⟩,?_,fun h=>?_,fun h=>by unfold bm;rw [Zy h]⟩
 ·unfold bm
  by_cases h:ba l k=0
  ·have h1:=h0 h
   rw [Zz h]
   unfold eB
   rw [Zz h,Zz h1.1]
   have h2:=jI (ls:=l) (i:=l.length-1) O
   have h3:l.take (l.length-1+1)=l:=ZY O
   rw [h3] at h2
   omega
  ·rw [Zy h]
   unfold eB
   rw [Zy h]
   omega
 ·have h1:=h0 h
  unfold bm
  rw [Zz h,ZK]
  exact ⟨h1.1,by omega,h1.2⟩
theorem gA (a:AA) {l:Zx} {k:Nat} (hl:0<l.length):(k≠0→(ac a l k).l=l∧(ac a l k).k=k)∧eB (ac a l k).l (ac a l k).k≤eB l k∧(k=0→a.kind≠2→eB (ac a l k).l (ac a l k).k<eB l k) ∧
  (a.kind=1→((ac a l k).k=0→(ac a l k).l.length=l.length+1)∧((ac a l k).k≠0→(ac a l k).l.length=l.length)) ∧
  (a.kind=2→((ac a l k).k=0→(ac a l k).l.length+1=l.length∧1<l.length)∧((ac a l k).k≠0→(ac a l k).l.length=l.length)) ∧
  (a.kind≠1→a.kind≠2→(ac a l k).l.length=l.length)∧((ac a l k).k=0→k=0):=by
 unfold ac
 by_cases h1:a.kind=1
 ·rw [Zz h1]
  obtain ⟨e1,e2,e3,e4,e5,e6⟩:=f7 (t:=a.tag) (l:=l) (k:=k) hl
  exact ⟨e1,e2,fun h _=>e3 h,fun _=>⟨e4,e5⟩,fun h=>by omega,fun h=>absurd h1 h,fun h=>cdx fun hk=>by have h3:=(e1 O).2;have h4:(ab a.tag l k).k=0:=h;omega⟩
 ·rw [Zy h1]
  by_cases h2:a.kind=2
  ·rw [Zz h2]
   obtain ⟨e1,e2,e3,e4⟩:=lN (l:=l) (k:=k) hl
   exact ⟨e1,e2,fun _ h=>absurd h2 h,fun h=>by omega,fun _=>⟨fun h=>(e3 h).2,fun h=>by dsimp only;rw [e4 h]⟩,fun _ h=>absurd h2 h,fun h=>(e3 h).1⟩
  ·rw [Zy h2]
   have key:∀ (t:Int) (e:Nat),(k≠0→e=(aj t l k).k)→(e=0→(aj t l k).k=0)→(k≠0→(aj t l k).l=l∧e=k)∧eB (aj t l k).l e≤eB l k∧(k=0→eB (aj t l k).l e<eB l k)∧(aj t l k).l.length=l.length∧(e=0→k=0):=fun t e h3 h4=>by
    obtain ⟨n1,n2,n3,n4,n5,n6,n7⟩:=wz (t:=t) (l:=l) (k:=k) hl
    have hm:eB (aj t l k).l e≤eB (aj t l k).l (aj t l k).k:=by
     unfold eB
     by_cases h:e=0
     ·rw [Zz h,Zz (h4 h)];exact ZA _
     ·rw [Zy h];omega
    refine ⟨fun h=>⟨by rw [n1 h],by rw [h3 h,n1 h]⟩,by omega,fun h=>by have:=n4 h;omega,n2,fun h=>n6 (n5.2 (h4 h))⟩
   by_cases h3:a.kind=11
   ·rw [Zz h3]
    obtain ⟨e1,e2,e3,e4,e5⟩:=key 0 (aj 0 l k).k (fun _=>rfl) id
    exact ⟨e1,e2,fun h _=>e3 h,fun h=>absurd h h1,fun h=>absurd h h2,fun _ _=>e4,e5⟩
   ·rw [Zy h3]
    unfold vt
    have hv:∀ f:I→Nat,(k≠0→gM (kR a) l k f=(aj (kR a) l k).k)∧(gM (kR a) l k f=0→(aj (kR a) l k).k=0):=fun f=>by
     obtain ⟨n1,n2,n3,n4,n5,n6,n7⟩:=wz (t:=kR a) (l:=l) (k:=k) hl
     unfold gM
     refine ⟨fun h=>Zy fun hi=>h (n6 hi),fun h=>?_⟩
     by_cases hi:(aj (kR a) l k).is=true
     exact n5.1 hi
     ·rw [Zy hi] at h;exact h
    obtain ⟨e1,e2,e3,e4,e5⟩:=key (kR a) (gM (kR a) l k fun b=>(saidM a b).2) (hv _).1 (hv _).2
    exact ⟨e1,e2,fun h _=>e3 h,fun h=>absurd h h1,fun h=>absurd h h2,fun _ _=>e4,e5⟩
abbrev t7 (α:Type):=Zx→Nat→(Zx×Nat)×α
structure oJ {α:Type} (sp:t7 α):Prop where
 mu:∀ l k,0<l.length→dq l k=true→eB (sp l k).1.1 (sp l k).1.2<eB l k
 len:∀ l k,0<l.length→dq l k=true→(sp l k).1.2=0→(sp l k).1.1.length=l.length
 grow:∀ l k,0<l.length→dq l k=true→l.length≤(sp l k).1.1.length∧(sp l k).1.1.length≤l.length+16
section
variable {α:Type} (sp:t7 α) (l0:Zx) (k0:Nat) (most:Int)
def bU:Nat→(Zx×Nat)×List α
 | 0=>((l0,k0),[])
 | j+1=>((sp (bU j).1.1 (bU j).1.2).1,(bU j).2++[(sp (bU j).1.1 (bU j).1.2).2])
def rf (j:Nat):Bool:=dq (bU sp l0 k0 j).1.1 (bU sp l0 k0 j).1.2 && decide ((j:Int)<most)
def u7 (p:Nat→Bool):Nat→Nat→Nat
 | 0,j=>j
 | n+1,j=>if p j=true then u7 p n (j+1) else j
theorem vM (p:Nat→Bool):∀ n j,(∀ i,i<j→p i=true)→(∀ i,i<u7 p n j→p i=true)∧(p (u7 p n j)=false∨u7 p n j=j+n)
 | 0,j,h=>⟨h,.inr rfl⟩
 | n+1,j,h=>by
  unfold u7
  by_cases hp:p j=true
  ·rw [Zz hp]
   obtain ⟨h1,h2⟩:=vM p n (j+1) (fun i hi=>if e:i=j then e ▸ hp else h i O)
   exact ⟨h1,h2.imp id (fun e=>by omega)⟩
  ·rw [Zy hp]
   exact ⟨h,.inl (by simpa using hp)⟩
def jG:Nat:=u7 (rf sp l0 k0 most) (eB l0 k0+1) 0
def dj:Zx×Nat :=
 let s:=(bU sp l0 k0 (jG sp l0 k0 most)).1
 if dq s.1 s.2=true then (bm s.1 3,ba s.1 3) else (bm s.1 s.2,ba s.1 s.2)
theorem sI:∀ j,(bU sp l0 k0 j).2.length=j
 | 0=>rfl
 | j+1=>by
  show (_++[_]).length=_
  rw [ZD,sI j];rfl
variable {sp l0 k0 most}
theorem nL (ok:oJ sp) (hl:0<l0.length):∀ j,(∀ i,i<j→rf sp l0 k0 most i=true)→eB (bU sp l0 k0 j).1.1 (bU sp l0 k0 j).1.2+j≤eB l0 k0∧((bU sp l0 k0 j).1.2=0→(bU sp l0 k0 j).1.1.length=l0.length)∧l0.length≤(bU sp l0 k0 j).1.1.length∧(bU sp l0 k0 j).1.1.length≤l0.length+16
 | 0,_=>⟨ZA _,fun _=>rfl,ZA _,by show l0.length≤l0.length+16;omega⟩
 | j+1,h=>by
  obtain ⟨h1,h2,h3,h4⟩:=nL ok hl j fun i hi=>h i O
  have hg:=h j O
  unfold rf at hg
  rw [ZE] at hg
  have hk:=(gU hg.1).1
  have hlen:=h2 hk
  have hp:0<(bU sp l0 k0 j).1.1.length:=by omega
  have m1:=ok.mu _ _ hp hg.1
  have m2:=ok.len _ _ hp hg.1
  have m3:=ok.grow _ _ hp hg.1
  show eB (sp (bU sp l0 k0 j).1.1 (bU sp l0 k0 j).1.2).1.1 (sp (bU sp l0 k0 j).1.1 (bU sp l0 k0 j).1.2).1.2+(j+1)≤_∧((sp (bU sp l0 k0 j).1.1 (bU sp l0 k0 j).1.2).1.2=0→(sp (bU sp l0 k0 j).1.1 (bU sp l0 k0 j).1.2).1.1.length=_)∧_≤(sp (bU sp l0 k0 j).1.1 (bU sp l0 k0 j).1.2).1.1.length∧(sp (bU sp l0 k0 j).1.1 (bU sp l0 k0 j).1.2).1.1.length≤_
  exact ⟨by omega,fun e=>by rw [m2 e,hlen],by omega,by omega⟩
theorem ot (ok:oJ sp) (hl:0<l0.length):(∀ i,i<jG sp l0 k0 most→rf sp l0 k0 most i=true)∧rf sp l0 k0 most (jG sp l0 k0 most)=false:=by
 obtain ⟨h1,h2⟩:=vM (rf sp l0 k0 most) (eB l0 k0+1) 0 (fun i hi=>absurd hi (ZO i))
 refine ⟨h1,?_⟩
 rcases h2 with h2|h2
 exact h2
 ·have:=(nL ok hl _ h1).1
  rw [h2] at this
  omega
theorem ou (ok:oJ sp) (hl:0<l0.length) {j:Nat} (h1:∀ i,i<j→rf sp l0 k0 most i=true) (h2:rf sp l0 k0 most j=false):jG sp l0 k0 most=j:=by
 obtain ⟨h3,h4⟩:=ot (k0:=k0) (most:=most) ok hl
 rcases bYx (jG sp l0 k0 most) j with h|h|h
 ·rw [h1 _ h] at h4;cases h4
 exact h
 ·rw [h3 _ h] at h2;cases h2
end
theorem oS {n:Nat} {x:UInt8} (h:n % 256=x.toNat):b8 n=x:=akx.1 (by rw [fC,h])
theorem NU {x:I} (h:x.length=1):x=[x.getD 0 0]:=by
 match x,h with
 | [a],_=>rfl
theorem NT {x:I} (h:x.length=2):x=[x.getD 0 0,x.getD 1 0]:=by
 match x,h with
 | [a,b],_=>rfl
theorem F9 {x:I} (h:x.length=3):x=[x.getD 0 0,x.getD 1 0,x.getD 2 0]:=by
 match x,h with
 | [a,b,c],_=>rfl
theorem Kh {x:I} (h:x.length=4):x=[x.getD 0 0,x.getD 1 0,x.getD 2 0,x.getD 3 0]:=by
 match x,h with
 | [a,b,c,d],_=>rfl
theorem FZ {b:I} (h:(cm b).e=0):b=ie (cm b).n++(cm b).rest:=by
 revert h
 unfold cm
 by_cases h0:b.length=0
 ·rw [Zz h0];intro h;cases h
 ·rw [Zy h0]
  dsimp only
  have hb:b=b.getD 0 0::b.drop 1:=by
   match b,h0 with
   | c::r,_=>rfl
  generalize hc:b.getD 0 0=c at hb ⊢
  generalize hr:b.drop 1=r at hb ⊢
  subst hb
  have hc8:=c.toNat_lt
  by_cases h1:c.toNat≤127
  ·rw [Zz h1]
   intro _
   unfold ie
   dsimp only
   rw [jP]
   rw [oS (show c.toNat % 256=c.toNat by omega)]
   rfl
  ·rw [Zy h1]
   by_cases h2:c.toNat=128∨132<c.toNat
   ·rw [Zz h2];intro h;cases h
   ·rw [Zy h2]
    by_cases h3:r.length<c.toNat-128
    ·rw [Zz h3];intro h;cases h
    ·rw [Zy h3]
     by_cases h4:mY (r.take (c.toNat-128))≤127∨(r.getD 0 0).toNat=0
     ·rw [Zz h4];intro h;cases h
     ·rw [Zy h4]
      intro _
      dsimp only
      have ⟨h5,h6⟩:=not_or.1 h4
      have hd:c::r=c::(r.take (c.toNat-128)++r.drop (c.toNat-128)):=by rw [amx]
      have hl:(r.take (c.toNat-128)).length=c.toNat-128:=by rw [ZK];omega
      have h0r:(r.take (c.toNat-128)).getD 0 0=r.getD 0 0:=by
       simp only [ZB,aXx]
       rw [jP]
      rw [hd]
      rw [← h0r] at h6
      generalize r.drop (c.toNat-128)=q at *
      generalize r.take (c.toNat-128)=x at *
      have hcx:c=b8 c.toNat:=(oS O).symm
      obtain e|e|e|e:c.toNat=129∨c.toNat=130∨c.toNat=131∨c.toNat=132:=by omega
      ·have hx:=NU (x:=x) O
       generalize x.getD 0 0=x0 at hx h6
       subst hx
       have h7:=x0.toNat_lt
       simp only [mY,bRx,b1x,aKx,Nat.zero_add] at h5 ⊢
       unfold ie
       rw [jK,jP,oS (show x0.toNat % 256=x0.toNat by omega),hcx,e]
       rfl
      ·have hx:=NT (x:=x) O
       generalize x.getD 0 0=x0 at hx h6
       generalize x.getD 1 0=x1 at hx
       subst hx
       have h7:=x0.toNat_lt
       have h8:=x1.toNat_lt
       simp only [mY,bRx,b1x,aKx,Nat.zero_add] at h5 ⊢
       unfold ie
       rw [jK,jK,jP,oS (show (x0.toNat * 256+x1.toNat) / 256 % 256=x0.toNat by omega),oS (show (x0.toNat * 256+x1.toNat) % 256=x1.toNat by omega),hcx,e]
       rfl
      ·have hx:=F9 (x:=x) O
       generalize x.getD 0 0=x0 at hx h6
       generalize x.getD 1 0=x1 at hx
       generalize x.getD 2 0=x2 at hx
       subst hx
       have h7:=x0.toNat_lt
       have h8:=x1.toNat_lt
       have h9:=x2.toNat_lt
       simp only [mY,bRx,b1x,aKx,Nat.zero_add] at h5 ⊢
       unfold ie
       rw [jK,jK,jK,jP,oS (show ((x0.toNat * 256+x1.toNat) * 256+x2.toNat) / 65536 % 256=x0.toNat by omega),oS (show ((x0.toNat * 256+x1.toNat) * 256+x2.toNat) / 256 % 256=x1.toNat by omega),oS (show ((x0.toNat * 256+x1.toNat) * 256+x2.toNat) % 256=x2.toNat by omega),hcx,e]
       rfl
      ·have hx:=Kh (x:=x) O
       generalize x.getD 0 0=x0 at hx h6
       generalize x.getD 1 0=x1 at hx
       generalize x.getD 2 0=x2 at hx
       generalize x.getD 3 0=x3 at hx
       subst hx
       have h7:=x0.toNat_lt
       have h8:=x1.toNat_lt
       have h9:=x2.toNat_lt
       have h10:=x3.toNat_lt
       simp only [mY,bRx,b1x,aKx,Nat.zero_add] at h5 ⊢
       unfold ie
       rw [jK,jK,jK,jK,oS (show (((x0.toNat * 256+x1.toNat) * 256+x2.toNat) * 256+x3.toNat) / 16777216 % 256=x0.toNat by omega),oS (show (((x0.toNat * 256+x1.toNat) * 256+x2.toNat) * 256+x3.toNat) / 65536 % 256=x1.toNat by omega),oS (show (((x0.toNat * 256+x1.toNat) * 256+x2.toNat) * 256+x3.toNat) / 256 % 256=x2.toNat by omega),oS (show (((x0.toNat * 256+x1.toNat) * 256+x2.toNat) * 256+x3.toNat) % 256=x3.toNat by omega),hcx,e]
       rfl
theorem Nu {b:I} (h:(ah b).e=0):bH ((ah b).tag:Nat)=true:=by
 revert h
 unfold ah
 by_cases h0:b.length=0
 ·rw [Zz h0];intro h;cases h
 ·rw [Zy h0]
  by_cases h1:bH ((b.getD 0 0).toNat:Nat)=false
  ·rw [Zz h1];intro h;cases h
  ·rw [Zy h1]
   dsimp only
   by_cases h2:(cm (b.drop 1)).e≠0
   ·rw [Zz h2];intro h;exact absurd h h2
   ·rw [Zy h2]
    by_cases h3:65530<(cm (b.drop 1)).n
    ·rw [Zz h3];intro h;cases h
    ·rw [Zy h3]
     by_cases h4:(cm (b.drop 1)).rest.length<(cm (b.drop 1)).n
     ·rw [Zz h4];intro h;cases h
     ·rw [Zy h4]
      intro _
      simpa using h1
theorem xO {b:I} (h:(ah b).e=0):b=bB ((ah b).tag:Nat) (ah b).body++(ah b).rest∧bH ((ah b).tag:Nat)=true∧(ah b).body.length≤65530:=by
 refine ⟨?_,Nu h,(gT b).2.2.1⟩
 revert h
 unfold ah
 by_cases h0:b.length=0
 ·rw [Zz h0];intro h;cases h
 ·rw [Zy h0]
  by_cases h1:bH ((b.getD 0 0).toNat:Nat)=false
  ·rw [Zz h1];intro h;cases h
  ·rw [Zy h1]
   dsimp only
   by_cases h2:(cm (b.drop 1)).e≠0
   ·rw [Zz h2];intro h;exact absurd h h2
   ·rw [Zy h2]
    have hm:=FZ (b:=b.drop 1) O
    by_cases h3:65530<(cm (b.drop 1)).n
    ·rw [Zz h3];intro h;cases h
    ·rw [Zy h3]
     by_cases h4:(cm (b.drop 1)).rest.length<(cm (b.drop 1)).n
     ·rw [Zz h4];intro h;cases h
     ·rw [Zy h4]
      intro _
      dsimp only
      have hb:b=b.getD 0 0::b.drop 1:=by
       match b,h0 with
       | c::r,_=>rfl
      have hc8:=(b.getD 0 0).toNat_lt
      have e:UInt8.ofNat (((b.getD 0 0).toNat:Nat):Int).toNat=b.getD 0 0:=by
       rw [bXx,bCx]
      have hl:((cm (b.drop 1)).rest.take (cm (b.drop 1)).n).length=(cm (b.drop 1)).n:=by rw [ZK];omega
      unfold bB
      rw [e,hl,List.cons_append,Z8,amx,← hm]
      exact hb
theorem DM {t:Int} {l:Zx} {k:Nat} (ht:t≠0) (h:(aj t l k).k=0):k=0∧cc l=bB t (aj t l k).body++(ah (cc l)).rest∧(aj t l k).l=l.set (l.length-1) (ah (cc l)).rest∧bH t=true∧(aj t l k).body.length≤65530∧(aj t l k).is=true:=by
 revert h
 unfold aj
 by_cases h0:k≠0
 ·rw [Zz h0];intro h;exact absurd h h0
 ·rw [Zy h0]
  by_cases h1:(ah (cc l)).e≠0
  ·rw [Zz h1];intro h;exact absurd h h1
  ·rw [Zy h1]
   by_cases h2:t≠0∧((ah (cc l)).tag:Int)≠t
   ·rw [Zz h2];intro h;cases h
   ·rw [Zy h2]
    intro _
    have h3:=xO (b:=cc l) O
    have e:((ah (cc l)).tag:Int)=t:=a1x fun e=>h2 ⟨ht,e⟩
    rw [e] at h3
    exact ⟨by omega,h3.1,rfl,h3.2.1,h3.2.2,rfl⟩
theorem FS {b:I} (h:(eU b).2=0):iK (eU b).1=b∧(bq (eU b).1).2=0:=by
 unfold eU at h ⊢
 by_cases h0:(sf b).2=0
 ·rw [Zz h0]
  obtain ⟨h1,h2⟩:=Rw (b:=b) (l:=(sf b).1) (by rw [← h0])
  have h3:=FP h2
  unfold iK
  dsimp only
  rw [h3]
  exact ⟨by rw [Zz rfl];exact h1,rfl⟩
 ·rw [Zy h0] at h;exact absurd h h0
theorem Ku {b:I} (h:(dE b).2=0):jz (dE b).1=b:=by
 have ⟨h1,h2⟩:=OQ h
 have ⟨h3,h4⟩:=Sy h
 rw [← nV h3 h4 h1]
 exact h2
theorem vu {b:I} {x y:Int} (h:(cq b x y).2=0):jz (cq b x y).1=b∧(dE b).2=0∧(cq b x y).1=(dE b).1∧x≤(dE b).1∧(dE b).1≤y:=by
 unfold cq at h ⊢
 by_cases h0:(dE b).2≠0
 ·rw [Zz h0] at h;exact absurd h h0
 ·rw [Zy h0] at h ⊢
  by_cases h1:(dE b).1<x∨y<(dE b).1
  ·rw [Zz h1] at h;cases h
  ·rw [Zy h1]
   exact ⟨Ku O,by omega,rfl,by omega,by omega⟩
structure Zs (x:I) (t:Nat) (b:I):Prop where
 nx:∀ r,ah (x++r)=⟨0,t,b,r⟩
 pos:0<x.length
 wh:∀ lv,lv≤16→(be lv t b).2=0∨(be lv t b).2=6
def Y4 (x:I):Prop:=∃ t b,Zs x t b
structure Y5 (s:W8):Prop where
 fr:∀ f ∈ s.fr,bO f.1=true∧∀ y ∈ f.2,Y4 y
 d:∃ xs:Zx,s.d=xs.flatten∧∀ x ∈ xs,Y4 x
def f9 (vs:List VV) (s:W8):W8:=vs.foldl (fun s v=>mC v s) s
def iJ (vs:List VV) (r:R8):R8:=vs.foldl (fun r v=>dm v r) r
theorem qQ (a b:List VV) (s:W8):f9 (a++b) s=f9 b (f9 a s):=by unfold f9;rw [cbx]
theorem xx (a b:List VV) (r:R8):iJ (a++b) r=iJ b (iJ a r):=by unfold iJ;rw [cbx]
theorem tq {i j:Nat} {r:R8} {s:W8} (h:gg i r s) (hij:i≤j):gg j r s :=
 ⟨h.same,by have:=h.w;omega,fun x hx=>by have:=h.rows x hx;omega,h.n⟩
theorem wC:∀ (vs:List VV) {i:Nat} {r:R8} {s:W8},gg i r s→(∀ v ∈ vs,ke v)→gg (i+vs.length) (iJ vs r) (f9 vs s)
 | [],i,r,s,h,_=>h
 | v::vs,i,r,s,h,hv=>by
  have:=wC vs (jl h (hv v ZU)) fun x hx=>hv x (Z2 _ hx)
  rw [List.length_cons,show i+(vs.length+1)=i+1+vs.length by omega]
  exact this
theorem EK {v:VV} {s:W8} (h:s.k≠0):mC v s=s:=by
 have e1:∀ e,bX e s=s:=fun e=>by unfold bX;rw [Zy h]
 unfold mC cW dS uz fH
 simp only [e1,h,ne_eq,not_false_iff,if_true,if_false,ite_self]
theorem Q9 {v:VV} {r:R8} (h:r.e≠0):dm v r=r:=by unfold dm;rw [Zz h]
theorem xw:∀ (vs:List VV) {r:R8},r.e≠0→iJ vs r=r
 | [],r,_=>rfl
 | v::vs,r,h=>by
  show iJ vs (dm v r)=r
  rw [Q9 h]
  exact xw vs h
theorem sk (s:W8):bX 0 s=s:=by
 unfold bX
 split
 ·rename_i h;rw [← h]
 rfl
theorem Hv {t:Int} {s:W8} (hk:s.k=0) (ht:bO t=true) (hl:s.fr.length<16):cW t s=⟨(t,[])::s.fr,s.d,0⟩:=by
 unfold cW
 rw [jK,Zy (by rw [ht];decide),jK,hk]
theorem rS {t:Int} {b:I} {s:W8} (hk:s.k=0) (ht:bH t=true) (hb:b.length≤65530):fH t b 0 s=cV (bB t b) s:=by
 unfold fH
 rw [sk,jK,Zy (by unfold rT;rw [Zy (by rw [ht];decide),jK];decide)]
theorem pT {t:Int} {ls:Zx} {fr:List (Int×Zx)} {d:I} (ht:bH t=true) (h9:t≠49) (hb:ls.flatten.length≤65530):dS ⟨(t,ls)::fr,d,0⟩=cV (bB t ls.flatten) ⟨fr,d,0⟩:=by
 have hf:lX (t,ls)=ls.flatten:=by unfold lX;rw [Zy h9]
 show fH t (lX (t,ls)) 0 ⟨fr,d,0⟩=_
 rw [hf,rS rfl ht hb]
def nG (x:Int×I):I:=bB x.1 x.2
structure GS (d:Nat) (x:Int×I):Prop where
 known:bH x.1=true
 len:x.2.length≤65530
 wh:∀ lv,d≤lv→(be lv x.1.toNat x.2).2=0
theorem GS.mono {d e:Nat} {x:Int×I} (h:GS d x) (hd:d≤e):GS e x:=⟨h.known,h.len,fun lv hl=>h.wh lv O⟩
theorem lC {t:Int} {b:I} (hk:bH t=true) (hm:bO t=false) (hb:b.length≤65530):GS 1 (t,b) :=
 ⟨hk,hb,fun lv _=>by rw [rE (by rw [bGx (pI hk).1];exact hm)]⟩
theorem EI {x:Int×I} (hk:bH x.1=true) (hb:x.2.length≤65530) (r:I):ah (nG x++r)=⟨0,x.1.toNat,x.2,r⟩:=xN hk hb
theorem wJ (x:Int×I):0<(nG x).length:=by unfold nG bB;simp
theorem DV {d lv:Nat} {rec:Nat→I→Nat×Nat} (hlv:1<lv):∀ (xs:List (Int×I)) (fuel:Nat) (last:I) (dp:Nat),(∀ x ∈ xs,GS d x∧(rec x.1.toNat x.2).2=0)→((xs.map nG).flatten).length≤fuel→(fZ rec false lv fuel (xs.map nG).flatten last dp).2=0
 | [],fuel,last,dp,_,_=>by
  show (fZ rec false lv fuel [] last dp).2=0
  rw [qz]
 | x::xs,fuel,last,dp,hx,hf=>by
  have ⟨h1,h2⟩:=hx x ZU
  rw [Z6,arx] at hf ⊢
  have hp:=wJ x
  have hn:=EI h1.known h1.len (xs.map nG).flatten
  rw [ZD] at hf
  cases fuel with
  | zero=>omega
  | succ fuel =>
   unfold fZ
   rw [hn]
   dsimp only
   rw [Zy (by rw [ZD];omega),Zy jD,jK,Zy (by rw [h2];decide),Zy (by simp)]
   exact DV hlv xs fuel _ _ (fun y hy=>hx y (Z2 _ hy)) O
theorem np {d:Nat} {t:Int} {xs:List (Int×I)} (hd:1≤d) (hm:bO t=true) (h9:t≠49) (hx:∀ x ∈ xs,GS d x) (hl:((xs.map nG).flatten).length≤65530):GS (d+1) (t,(xs.map nG).flatten):=by
 have hk:=og hm
 refine ⟨hk,hl,fun lv h=>?_⟩
 obtain ⟨lv,rfl⟩:∃ m,lv=m+1:=⟨lv-1,by omega⟩
 have ht:((t.toNat:Nat):Int)=t:=bGx (pI hk).1
 show (be (lv+1) t.toNat (xs.map nG).flatten).2=0
 unfold be
 rw [ht,Zy (by rw [hm];decide)]
 have e:decide (t.toNat=49)=false:=by rw [aGx];omega
 rw [e]
 exact DV (d:=d) O xs _ _ _ (fun x h2=>⟨hx x h2,(hx x h2).wh lv O⟩) (ZA _)
theorem Au {d:Nat} {x:Int×I} (h:GS d x) (hd:d≤16) (hl:(nG x).length≤65536):(aR (nG x)).2=0:=by
 have hn:=EI h.known h.len []
 rw [aMx] at hn
 unfold aR
 rw [hn,jK]
 dsimp only
 rw [Zy jD,Zy (by simp)]
 exact h.wh 16 hd
theorem iU (ls:Zx) (x:I):cc (ls++[x])=x:=by unfold cc;simp
theorem C8 (ls:Zx) (x y:I):(ls++[x]).set ((ls++[x]).length-1) y=ls++[y]:=by simp
theorem Aj (ls:Zx) {t:Int} {b:I} (r:I) (hk:bH t=true) (hb:b.length≤65530):∃ tg raw,aj t (ls++[bB t b++r]) 0=⟨ls++[r],0,tg,b,raw,true⟩:=by
 have hn:=xN (r:=r) hk hb
 have h0:=(pI hk).1
 unfold aj
 rw [iU,hn,C8,Zy jD,Zy (by simp),Zy (by dsimp only;rw [bGx h0];simp)]
 exact ⟨_,_,rfl⟩
theorem oe {ls:Zx} {x:I} {t:Int} {k:Nat} (ht:t≠0) (h:(aj t (ls++[x]) k).k=0):k=0∧bH t=true∧∃ b r tg raw,x=bB t b++r∧b.length≤65530∧aj t (ls++[x]) k=⟨ls++[r],0,tg,b,raw,true⟩:=by
 have ⟨h1,h2,h3,h4,h5,h6⟩:=DM ht h
 rw [iU] at h2 h3
 rw [C8] at h3
 refine ⟨h1,h4,(aj t (ls++[x]) k).body,(ah x).rest,(aj t (ls++[x]) k).tag,(aj t (ls++[x]) k).raw,h2,h5,?_⟩
 rw [← h3]
 conv=>rhs;arg 2;rw [← h]
 conv=>rhs;arg 6;rw [← h6]
theorem qP (ls:Zx) {t:Int} {b:I} (r:I) (hm:bO t=true) (hb:b.length≤65530):af t (ls++[bB t b++r]) 0=ls++[r]++[b]∧(ab t (ls++[bB t b++r]) 0).k=0∧(ab t (ls++[bB t b++r]) 0).is=true:=by
 obtain ⟨tg,raw,hN⟩:=Aj ls r (og hm) hb
 have hE:ab t (ls++[bB t b++r]) 0=⟨ls++[r],0,tg,b,raw,true⟩:=by
  unfold ab
  rw [Zy (by rintro ⟨_,h⟩;rw [hm] at h;cases h),hN]
 unfold af
 rw [hE,Zz rfl]
 exact ⟨rfl,rfl,rfl⟩
theorem so {ls:Zx} {x:I} {t:Int} {k:Nat} (ht:t≠0) (h:(ab t (ls++[x]) k).k=0):k=0∧∃ b r,x=bB t b++r∧b.length≤65530∧af t (ls++[x]) k=ls++[r]++[b]∧(ab t (ls++[x]) k).is=true:=by
 have hc:k=0∧ab t (ls++[x]) k=aj t (ls++[x]) k:=by
  unfold ab at h ⊢
  by_cases hc:dq (ls++[x]) k=true∧bO t=false
  ·rw [Zz hc] at h
   exact absurd (oe ht h).1 jD
  ·rw [Zy hc] at h ⊢
   exact ⟨(oe ht h).1,rfl⟩
 have ⟨hk,hE⟩:=hc
 rw [hE] at h
 have ⟨_,_,b,r,tg,raw,h1,h2,h3⟩:=oe ht h
 refine ⟨hk,b,r,h1,h2,?_,?_⟩
 ·unfold af
  rw [hE,h3,Zz rfl]
 ·rw [hE,h3]
theorem rQ (a:AA) (ha:a.kind=1) (l:Zx) (k:Nat):(ac a l k).l=af a.tag l k∧(ac a l k).k=(ab a.tag l k).k:=by unfold ac;rw [Zz ha];exact ⟨rfl,rfl⟩
theorem rP (a:AA) (ha:a.kind=2) (l:Zx) (k:Nat):(ac a l k).l=bm l k∧(ac a l k).k=ba l k:=by unfold ac;rw [jK,Zz ha];exact ⟨rfl,rfl⟩
theorem qE {ls:Zx} (h:0<ls.length):bm (ls++[[]]) 0=ls∧ba (ls++[[]]) 0=0:=by
 have hk:ba (ls++[[]]) 0=0:=by
  unfold ba
  rw [Zy jD,Zy (by rw [ZD,aEx];omega),iU,Zy jD]
 unfold bm
 rw [hk,Zz rfl]
 exact ⟨by simp,rfl⟩
theorem rZ {ls:Zx} {x:I} {k:Nat} (h:ba (ls++[x]) k=0):k=0∧x=[]∧0<ls.length∧bm (ls++[x]) k=ls:=by
 have h0:=h
 unfold ba at h
 by_cases h1:k≠0
 ·rw [Zz h1] at h;exact absurd h h1
 ·rw [Zy h1] at h
  by_cases h2:(ls++[x]).length=1
  ·rw [Zz h2] at h;cases h
  ·rw [Zy h2,iU] at h
   by_cases h3:0<x.length
   ·rw [Zz h3] at h;cases h
   ·refine ⟨by omega,Z5 O,by rw [ZD,aEx] at h2;omega,?_⟩
    unfold bm
    rw [h0,Zz rfl]
    simp
theorem pu (a:AA) (ls:Zx) {b:I} (r:I) (ha:3≤a.kind∧a.kind≤10) (hb:b.length≤65530) (h:(saidM a b).2=0):ac a (ls++[bB (kR a) b++r]) 0=⟨ls++[r],0,(saidM a b).1⟩:=by
 have hk:bH (kR a)=true:=by
  unfold kR
  repeat' split
  all_goals decide
 have ⟨tg,raw,hN⟩:=Aj ls r hk hb
 unfold ac vt gM
 rw [jK,jK,jK,hN]
 dsimp only
 rw [Zz rfl,Zz ⟨rfl,h⟩,h]
theorem lz {a:AA} {ls:Zx} {x:I} {k:Nat} (ha:3≤a.kind∧a.kind≤10) (h:(ac a (ls++[x]) k).k=0):k=0∧∃ b r,x=bB (kR a) b++r∧b.length≤65530∧(saidM a b).2=0∧ac a (ls++[x]) k=⟨ls++[r],0,(saidM a b).1⟩:=by
 have ht:kR a≠0:=by
  unfold kR
  repeat' split
  all_goals decide
 have e:ac a (ls++[x]) k=vt (kR a) (saidM a) (ls++[x]) k:=by unfold ac;rw [jK,jK,jK]
 have hn:(aj (kR a) (ls++[x]) k).k=0:=by
  rw [e] at h
  unfold vt gM at h
  dsimp only at h
  by_cases hi:(aj (kR a) (ls++[x]) k).is=true
  exact (wz (by simp)).2.2.2.2.1.1 hi
  ·rw [Zy hi] at h;exact h
 have ⟨h1,h2,b,r,tg,raw,h3,h4,h5⟩:=oe ht hn
 rw [e] at h ⊢
 unfold vt gM at h ⊢
 rw [h5] at h ⊢
 dsimp only at h ⊢
 rw [Zz rfl] at h
 exact ⟨h1,b,r,h3,h4,h,by rw [Zz rfl,Zz ⟨rfl,h⟩,h]⟩
theorem Pe {l:Zx} {k:Nat} (hl:0<l.length) (h:nB l k=0):k=0∧l=[[]]:=by
 unfold nB at h
 by_cases h1:k≠0
 ·rw [Zz h1] at h;exact absurd h h1
 ·rw [Zy h1] at h
  by_cases h2:1<l.length
  ·rw [Zz h2] at h;cases h
  ·rw [Zy h2] at h
   by_cases h3:0<(l.getD 0 []).length
   ·rw [Zz h3] at h;cases h
   ·refine ⟨by omega,?_⟩
    obtain ⟨x,rfl⟩:=List.length_eq_one_iff.1 (show l.length=1 by omega)
    have:x=[]:=Z5 (by simpa using h3)
    rw [this]
structure vm {α:Type} (sp:t7 α) (enc:α→I) (good:α→Prop):Prop where
 fwd:∀ (ls:Zx) a r,good a→sp (ls++[enc a++r]) 0=((ls++[r],0),a)
 back:∀ (ls:Zx) x k,(sp (ls++[x]) k).1.2=0→k=0∧∃ a r,good a∧x=enc a++r∧sp (ls++[x]) k=((ls++[r],0),a)
 pos:∀ a,good a→0<(enc a).length
section
variable {α:Type} {sp:t7 α} {enc:α→I} {good:α→Prop}
theorem Me (h:vm sp enc good) (ls:Zx):∀ (xs:List α) (j:Nat),(∀ a ∈ xs,good a)→j≤xs.length→bU sp (ls++[(xs.map enc).flatten]) 0 j=((ls++[((xs.drop j).map enc).flatten],0),xs.take j)
 | xs,0,_,_=>by simp [bU]
 | xs,j+1,hg,hj=>by
  have ih:=Me h ls xs j hg O
  have e:((xs.drop j).map enc).flatten=enc xs[j]++((xs.drop (j+1)).map enc).flatten:=by
   rw [ZZ (show j<xs.length by omega),Z6,arx]
  have h2:=h.fwd ls xs[j] ((xs.drop (j+1)).map enc).flatten (hg _ (aAx _))
  unfold bU
  rw [ih]
  dsimp only
  rw [e,h2]
  dsimp only
  rw [← ZH (show j<xs.length by omega)]
theorem Hf (ok:oJ sp) (h:vm sp enc good) {tag most:Int} (ls:Zx) {xs:List α} (r:I) (hm:bO tag=true) (hg:∀ a ∈ xs,good a) (hl:(xs.length:Int)≤most) (hb:((xs.map enc).flatten).length≤65530) :
  dj sp (af tag (ls++[bB tag (xs.map enc).flatten++r]) 0) (ab tag (ls++[bB tag (xs.map enc).flatten++r]) 0).k most=(ls++[r],0) ∧
  (bU sp (af tag (ls++[bB tag (xs.map enc).flatten++r]) 0) (ab tag (ls++[bB tag (xs.map enc).flatten++r]) 0).k (jG sp (af tag (ls++[bB tag (xs.map enc).flatten++r]) 0) (ab tag (ls++[bB tag (xs.map enc).flatten++r]) 0).k most)).2=xs:=by
 have ⟨e1,e2,e3⟩:=qP ls r hm hb
 rw [e1,e2]
 have hst:=fun j hj=>Me h (ls++[r]) xs j hg hj
 have hJ:jG sp (ls++[r]++[(xs.map enc).flatten]) 0 most=xs.length:=by
  refine ou ok (by simp) (fun i hi=>?_) ?_
  ·unfold rf
   rw [hst i O]
   dsimp only
   unfold dq
   rw [iU]
   have hd:((xs.drop i).map enc).flatten=enc xs[i]++((xs.drop (i+1)).map enc).flatten:=by
    rw [ZZ (show i<xs.length by omega),Z6,arx]
   have hp:=h.pos xs[i] (hg _ (aAx _))
   rw [hd]
   simp only [ZD,ZE,ZJ]
   refine ⟨⟨trivial,?_⟩,?_⟩
   omega
   omega
  ·unfold rf
   rw [hst _ (ZA _)]
   dsimp only
   unfold dq
   rw [iU,bHx]
   simp
 have hs:=hst _ (ZA _)
 rw [bHx,ZW] at hs
 have hs':bU sp (ls++[r]++[(xs.map enc).flatten]) 0 xs.length=((ls++[r]++[[]],0),xs):=hs
 have hlv:=qE (ls:=ls++[r]) (by simp)
 refine ⟨?_,?_⟩
 ·unfold dj
  rw [hJ,hs']
  dsimp only
  rw [Zy (by unfold dq;rw [iU];simp),hlv.1,hlv.2]
 ·rw [hJ,hs']
theorem G7 (h:vm sp enc good) {most:Int} {k0:Nat} (ls:Zx) (x:I):∀ j,(∀ i,i<j→rf sp (ls++[x]) k0 most i=true)→(bU sp (ls++[x]) k0 j).1.2=0→∃ y,(bU sp (ls++[x]) k0 j).1.1=ls++[y]∧x=((bU sp (ls++[x]) k0 j).2.map enc).flatten++y∧∀ a ∈ (bU sp (ls++[x]) k0 j).2,good a
 | 0,_,hk=>⟨x,rfl,rfl,fun a ha=>by cases ha⟩
 | j+1,hgo,hk=>by
  have hg:=hgo j O
  unfold rf at hg
  rw [ZE] at hg
  have hkj:=(gU hg.1).1
  obtain ⟨y,h1,h2,h3⟩:=G7 h (most:=most) ls x j (fun i hi=>hgo i O) hkj
  have hk':(sp (bU sp (ls++[x]) k0 j).1.1 (bU sp (ls++[x]) k0 j).1.2).1.2=0:=hk
  rw [h1] at hk'
  obtain ⟨_,a,r,h4,h5,h6⟩:=h.back ls y _ hk'
  refine ⟨r,?_,?_,?_⟩
  ·show (sp (bU sp (ls++[x]) k0 j).1.1 (bU sp (ls++[x]) k0 j).1.2).1.1=_
   rw [h1,h6]
  ·show x=(((bU sp (ls++[x]) k0 j).2++[(sp (bU sp (ls++[x]) k0 j).1.1 (bU sp (ls++[x]) k0 j).1.2).2]).map enc).flatten++r
   rw [h1,h6,a0x,aSx,Z8]
   rw [h5] at h2
   simpa using h2
  ·intro b hb
   have hb':b ∈ (bU sp (ls++[x]) k0 j).2++[(sp (bU sp (ls++[x]) k0 j).1.1 (bU sp (ls++[x]) k0 j).1.2).2]:=hb
   rw [h1,h6] at hb'
   rcases bcx.1 hb' with hb'|hb'
   exact h3 b hb'
   ·rw [agx.1 hb'];exact h4
theorem xj (ok:oJ sp) (h:vm sp enc good) {tag most:Int} {k:Nat} (ls:Zx) (x:I) (ht:tag≠0) (he:(dj sp (af tag (ls++[x]) k) (ab tag (ls++[x]) k).k most).2=0) :
  k=0∧∃ xs r,(∀ a ∈ xs,good a)∧(xs=[]∨(xs.length:Int)≤most)∧((xs.map enc).flatten).length≤65530∧x=bB tag (xs.map enc).flatten++r∧dj sp (af tag (ls++[x]) k) (ab tag (ls++[x]) k).k most=(ls++[r],0) ∧
   (bU sp (af tag (ls++[x]) k) (ab tag (ls++[x]) k).k (jG sp (af tag (ls++[x]) k) (ab tag (ls++[x]) k).k most)).2=xs:=by
 have hlen:0<(af tag (ls++[x]) k).length:=by
  obtain ⟨_,_,_,e4,e5,_⟩:=f7 (t:=tag) (l:=ls++[x]) (k:=k) (by simp)
  by_cases h0:(ab tag (ls++[x]) k).k=0
  ·rw [e4 h0];omega
  ·rw [e5 h0];simp
 obtain ⟨hgo,hstop⟩:=ot (k0:=(ab tag (ls++[x]) k).k) (most:=most) ok hlen
 have hbd:=nL (k0:=(ab tag (ls++[x]) k).k) (most:=most) ok hlen
 have hE:dj sp (af tag (ls++[x]) k) (ab tag (ls++[x]) k).k most=(bm (bU sp (af tag (ls++[x]) k) (ab tag (ls++[x]) k).k (jG sp (af tag (ls++[x]) k) (ab tag (ls++[x]) k).k most)).1.1 (bU sp (af tag (ls++[x]) k) (ab tag (ls++[x]) k).k (jG sp (af tag (ls++[x]) k) (ab tag (ls++[x]) k).k most)).1.2,ba (bU sp (af tag (ls++[x]) k) (ab tag (ls++[x]) k).k (jG sp (af tag (ls++[x]) k) (ab tag (ls++[x]) k).k most)).1.1 (bU sp (af tag (ls++[x]) k) (ab tag (ls++[x]) k).k (jG sp (af tag (ls++[x]) k) (ab tag (ls++[x]) k).k most)).1.2):=by
  unfold dj at he ⊢
  dsimp only at he ⊢
  split at he
  ·exfalso
   dsimp only at he
   unfold ba at he
   rw [Zz jD] at he
   cases he
  ·rename_i hm
   rw [Zy hm]
 rw [hE] at he
 dsimp only at he
 have hkJ:(bU sp (af tag (ls++[x]) k) (ab tag (ls++[x]) k).k (jG sp (af tag (ls++[x]) k) (ab tag (ls++[x]) k).k most)).1.2=0:=by
  refine cdx fun hp=>?_
  have hp':(bU sp (af tag (ls++[x]) k) (ab tag (ls++[x]) k).k (jG sp (af tag (ls++[x]) k) (ab tag (ls++[x]) k).k most)).1.2≠0:=by omega
  unfold ba at he
  rw [Zz hp'] at he
  exact hp' he
 have hk0:(ab tag (ls++[x]) k).k=0:=by
  rcases btx (jG sp (af tag (ls++[x]) k) (ab tag (ls++[x]) k).k most) with hz|hz
  ·rw [hz] at hkJ;exact hkJ
  ·have hg:=hgo 0 hz
   unfold rf at hg
   rw [ZE] at hg
   exact (gU hg.1).1
 have ⟨hk,b,r,h1,h2,h3,h4⟩:=so ht hk0
 have hJlen:jG sp (af tag (ls++[x]) k) (ab tag (ls++[x]) k).k most=0∨((jG sp (af tag (ls++[x]) k) (ab tag (ls++[x]) k).k most:Nat):Int)≤most:=by
  rcases btx (jG sp (af tag (ls++[x]) k) (ab tag (ls++[x]) k).k most) with hz|hz
  exact .inl hz
  ·have hg:=hgo (jG sp (af tag (ls++[x]) k) (ab tag (ls++[x]) k).k most-1) O
   unfold rf at hg
   rw [ZE,ZJ] at hg
   exact .inr O
 rw [hE]
 rw [hk0,h3] at hgo hkJ he hJlen ⊢
 obtain ⟨y,h5,h6,h7⟩:=G7 h (ls++[r]) b _ hgo hkJ
 have hso:=sI sp (ls++[r]++[b]) 0 (jG sp (ls++[r]++[b]) 0 most)
 generalize jG sp (ls++[r]++[b]) 0 most=J at *
 rw [h5] at he
 have ⟨_,h8,_,h9⟩:=rZ he
 subst h8
 rw [aMx] at h6
 refine ⟨hk,(bU sp (ls++[r]++[b]) 0 J).2,r,h7,?_,by rw [← h6];exact h2,by rw [← h6];exact h1,?_,rfl⟩
 ·rcases hJlen with h|h
  exact .inl (Z5 O)
  exact .inr (by rw [hso];exact h)
 ·rw [h5,h9,he]
end
end
section
open Go.RowKit Cal
theorem jm {n p:Int} {c:UInt8} (h:n / p % 10=(c.toNat:Int)-48) (h2:48≤(c.toNat:Int)):kJ n p=c:=by
 unfold kJ
 refine akx.1 ?_
 have h3:=c.toNat_lt
 rw [ZT]
 omega
theorem BV {b:I} (h:El b=0):eJ (DG (wj b))=b∧yV (wj b):=by
 have hf:yi b:=by
  unfold El at h
  by_cases hf:yi b
  exact hf
  ·rw [Zy hf] at h;cases h
 have hr:gZ (eR b):=by
  unfold El at h
  rw [Zz hf] at h
  by_cases hr:gZ (eR b)
  exact hr
  ·rw [Zy hr] at h;cases h
 have hv:wj b=uq (eR b):=by unfold wj;rw [Zz ⟨hf,hr⟩]
 have hb:=Mx hr
 have ho:DG (wj b)=eR b:=by
  unfold DG
  rw [hv,Zz hb,FT hr]
 rw [ho,hv]
 refine ⟨?_,hb⟩
 have ⟨hl,hz,hd⟩:=hf
 have key:∀ i,i<15→(eJ (eR b)).getD i 0=b.getD i 0:=by
  have d0:=hd 0 jD;have d1:=hd 1 jD;have d2:=hd 2 jD;have d3:=hd 3 jD;have d4:=hd 4 jD;have d5:=hd 5 jD;have d6:=hd 6 jD
  have d7:=hd 7 jD;have d8:=hd 8 jD;have d9:=hd 9 jD;have d10:=hd 10 jD;have d11:=hd 11 jD;have d12:=hd 12 jD;have d13:=hd 13 jD
  unfold Ks at d0 d1 d2 d3 d4 d5 d6 d7 d8 d9 d10 d11 d12 d13
  have ey:(eR b).y=1000 * dg b 0+100 * dg b 1+10 * dg b 2+dg b 3:=by show 100 * (10 * dg b 0+dg b 1)+(10 * dg b 2+dg b 3)=_;omega
  have em:(eR b).m=10 * dg b 4+dg b 5:=rfl
  have ed:(eR b).d=10 * dg b 6+dg b 7:=rfl
  have eh:(eR b).h=10 * dg b 8+dg b 9:=rfl
  have ei:(eR b).mi=10 * dg b 10+dg b 11:=rfl
  have es:(eR b).s=10 * dg b 12+dg b 13:=rfl
  unfold dg at ey em ed eh ei es
  intro i hi
  rcases i with _|_|_|_|_|_|_|_|_|_|_|_|_|_|_|i
  exact jm (n:=(eR b).y) (p:=1000) (c:=b.getD 0 0) O O
  exact jm (n:=(eR b).y) (p:=100) (c:=b.getD 1 0) O O
  exact jm (n:=(eR b).y) (p:=10) (c:=b.getD 2 0) O O
  exact jm (n:=(eR b).y) (p:=1) (c:=b.getD 3 0) O O
  exact jm (n:=(eR b).m) (p:=10) (c:=b.getD 4 0) O O
  exact jm (n:=(eR b).m) (p:=1) (c:=b.getD 5 0) O O
  exact jm (n:=(eR b).d) (p:=10) (c:=b.getD 6 0) O O
  exact jm (n:=(eR b).d) (p:=1) (c:=b.getD 7 0) O O
  exact jm (n:=(eR b).h) (p:=10) (c:=b.getD 8 0) O O
  exact jm (n:=(eR b).h) (p:=1) (c:=b.getD 9 0) O O
  exact jm (n:=(eR b).mi) (p:=10) (c:=b.getD 10 0) O O
  exact jm (n:=(eR b).mi) (p:=1) (c:=b.getD 11 0) O O
  exact jm (n:=(eR b).s) (p:=10) (c:=b.getD 12 0) O O
  exact jm (n:=(eR b).s) (p:=1) (c:=b.getD 13 0) O O
  exact (akx.1 (show (90:UInt8).toNat=(b.getD 14 0).toNat by have e:(90:UInt8).toNat=90:=rfl;omega))
  omega
 refine bgx (by rw [hl];rfl) fun i h1 h2=>?_
 have:=key i O
 rw [ZB,ZB,ZM h1,ZM h2] at this
 exact this
theorem PF {v:VV} (hn:-9223372036854775808≤v.n∧v.n≤9223372036854775807) (ht:v.t.length≤300):(aF v).2.1.length≤max 300 v.b.length:=by
 by_cases h6:v.kind=6
 ·have e:aF v=(4,v.b,0):=by unfold aF;rw [jK,jK,jK,Zz h6]
  rw [e]
  show v.b.length≤_
  omega
 ·have hs:ke ⟨v.kind,v.n,v.is,[],v.t⟩:=⟨hn,by simp,ht⟩
  have:=vR hs
  have e:aF ⟨v.kind,v.n,v.is,[],v.t⟩=aF v:=by
   unfold aF
   dsimp only
   rw [Zy h6,Zy h6]
  rw [e] at this
  omega
theorem Sj {i:Nat} {r:R8} {s:W8} (h:gg i r s) {v:VV} {u:Nat} (hn:-9223372036854775808≤v.n∧v.n≤9223372036854775807) (ht:v.t.length≤300) (hk:3≤v.kind∧v.kind≤10) (hu:1≤u) (hb:v.b.length+10≤400 * u):gg (i+u) (dm v r) (mC v s):=by
 have hs:=Hd h.same v
 have hw:yW (mC v s)≤yW s+400 * u:=by
  have e:mC v s=fH (aF v).1 (aF v).2.1 (aF v).2.2 s:=by
   unfold mC
   rw [jK,jK,jK]
  have h1:=Fi (aF v).1 (aF v).2.1 (aF v).2.2 s
  have h2:=PF hn ht
  rw [e]
  omega
 have hg:=Ei v r
 have h0:=h.w
 have hl:(dm v r).tags.length≤16:=by rw [hs.tags];simpa using hs.lim
 refine ⟨hs,by omega,fun x hx=>?_,?_⟩
 ·rcases hg.2 x hx with h1|h1|⟨y,b,h1,h2,h3⟩
  ·have:=h.rows x h1;omega
  ·subst h1;simp [cw]
  ·have ha:=yO hs
   rw [← h3] at ha
   refine ⟨?_,by omega⟩
   rw [h2,ZD,aEx]
   rcases h1 with h1|h1
   ·have:=h.rows y h1;omega
   ·subst h1;simp;omega
 ·have:=hg.1
  have:=h.n
  omega
theorem GK {v:VV} (h:3≤v.kind∧v.kind≤10):(v.kind=3∧aF v=(2,jz v.n,0))∨(v.kind=4∧aF v=(10,jz v.n,0))∨(v.kind=5∧aF v=(1,[if v.is then 255 else 0],0))∨(v.kind=6∧aF v=(4,v.b,0)) ∨
  (v.kind=7∧aF v=(12,if az v.t v.n=0 then v.t else [],az v.t v.n))∨(v.kind=8∧aF v=(6,iK v.t,(bq v.t).2))∨(v.kind=9∧aF v=(24,if yV v.n then eJ (DG v.n) else [],U9 v.n))∨(v.kind=10∧aF v=(3,k8 v.n,oR v.n)):=by
 obtain h|h|h|h|h|h|h|h:v.kind=3∨v.kind=4∨v.kind=5∨v.kind=6∨v.kind=7∨v.kind=8∨v.kind=9∨v.kind=10:=by omega
 exact .inl ⟨h,by unfold aF;rw [Zz h]⟩
 exact .inr (.inl ⟨h,by unfold aF;rw [jK,Zz h]⟩)
 exact .inr (.inr (.inl ⟨h,by unfold aF;rw [jK,jK,Zz h]⟩))
 exact .inr (.inr (.inr (.inl ⟨h,by unfold aF;rw [jK,jK,jK,Zz h]⟩)))
 exact .inr (.inr (.inr (.inr (.inl ⟨h,by unfold aF;rw [jK,jK,jK,jK,Zz h]⟩))))
 exact .inr (.inr (.inr (.inr (.inr (.inl ⟨h,by unfold aF;rw [jK,jK,jK,jK,jK,Zz h]⟩)))))
 exact .inr (.inr (.inr (.inr (.inr (.inr (.inl ⟨h,by unfold aF;rw [jK,jK,jK,jK,jK,jK,Zz h]⟩))))))
 exact .inr (.inr (.inr (.inr (.inr (.inr (.inr ⟨h,by unfold aF;rw [jK,jK,jK,jK,jK,jK,jK]⟩))))))
theorem WC {v:VV} (h:3≤v.kind∧v.kind≤10):bH (aF v).1=true∧bO (aF v).1=false∧(aF v).1≠0:=by
 obtain ⟨_,e⟩|⟨_,e⟩|⟨_,e⟩|⟨_,e⟩|⟨_,e⟩|⟨_,e⟩|⟨_,e⟩|⟨_,e⟩:=GK h<;>(rw [e];dsimp only;decide)
theorem Ck {v:VV} (h:3≤v.kind∧v.kind≤10) (s:W8):mC v s=fH (aF v).1 (aF v).2.1 (aF v).2.2 s:=by
 unfold mC
 rw [jK,jK,jK]
end
section
variable {gs:List Nat} [dO gs]
def ua (l:Zx):CV:=.rs 1 l.length fun i _=>ap (l.getD i [])
def mj (s:S3):CV:=.agg 3 (fl [.c (.int .i64 s.1),ap s.2.1,ap s.2.2])
def wF (j:Nat):CV:=ap (oL.getD j [])
theorem Tu (j:Nat) (hj:j<5):aa (fl [ap [110,111,100,101],ap [119,111,114,107,108,111,97,100],ap [111,112,101,114,97,116,111,114],ap [98,111,111,116],ap [99,97]] j) (wF j):=by
 rcases j with _|_|_|_|_|j<;>first|exact Z|omega
theorem CP {gs:List Nat}:cd gs prog 155 [] (ua oL):=by
 refine ae 2 func155 fun _ _ _ _=>?_;refine U 6516 ?_
 refine aq (aM 5 1 CC fun p1=>?_)
 refine U 51 ?_;refine jE (dt 0 (m:=5) (F:=wF) rfl jD (fun _=>rfl) (fun j hj=>Tu j hj)) ?_;refine jE (freeze 0 rfl) ?_;refine jE (iG 0 (fun a _=>ap (oL.getD a [])) rfl rfl jD (fun a b ha hb=>aa.of_eq (by rw [show 0+(a * 1+b)=a by omega];rfl))) ?_
 refine jR (eN (hv:=Z))
theorem G1 {gs:List Nat} (k:Int):cd gs prog 112 [.c (.int .i64 k)] (ap (fL k)):=by
 refine ae 14 func112 fun _ _ _ _=>?_;refine U 12167516 ?_;refine aH 5 (fun g13=>?_) fun g13=>?_
 ·refine U 8000300070005169000510000000044 ?_;refine aa.strL ?_
  unfold fL
  by_cases h:k<1
  ·rw [Zz h]
  ·rw [Zy h,ZB,Z0 (by show 5≤_;omega)];rfl
 refine U 550021 ?_;refine an (fun h13=>?_) fun h13=>?_
 ·refine U 800030007000516 ?_;refine aa.strL ?_
  unfold fL
  by_cases h:k<1
  ·rw [Zz h]
  ·rw [Zy h,ZB,Z0 (by show 5≤_;omega)];rfl
 refine U 6810 ?_
 refine aq (aM 5 1 CC fun p1=>?_)
 refine U 91 ?_;refine aA (dt 0 (m:=5) (F:=wF) rfl jD (fun _=>rfl) (fun j hj=>Tu j hj)) ?_;refine jq (dP (i:=(k-1).toNat) (hz:=by omega)) ?_;refine U 800070005150 ?_;refine aa.strL ?_
 unfold fL
 rw [jK]
def OA (l:Zx) (x:I):Int:=if x ∈ l then (l.idxOf x:Nat) else -1
theorem Kv {gs:List Nat} (l:Zx) (x:I):cd gs prog 171 [ua l,ap x] (.c (.int .i64 (OA l x))):=by
 refine fF 0 rfl fun hlen=>?_;refine ae 19 func171 fun _ _ _ _=>?_;refine U 20513167516 ?_;refine ar (α:=Nat) [4,5,8,9,10,11,12,13,14,15,16,17,18] (fun i=>[(8,.c (.int .i64 (i:Nat)))]) (fun _=>[]) (fun i=>i≤l.length∧x ∉ l.take i) (fun i=>l.length-i) (0) ?_ (fun _=>rfl) ?_ ?_ ?_
 exact ⟨by omega,by simp⟩
 ·(repeat (first|exact bh.nil|refine bh.cons Z ?_))
 ·(repeat (exact aD.nil))
 ·rintro i ⟨hi,he⟩
  refine U 7526 ?_;refine aaa (fun h97=>?_) fun h97=>?_
  ·refine U 8000700051684000200020006000 ?_;refine cI ?_
   have:l.take i=l:=ZY O
   rw [this] at he
   unfold OA
   rw [Zy he]
  refine U 5600006070011165116207810 ?_;refine an (fun h98=>?_) fun h98=>?_
  ·refine U 80003000500030003000500070005116 ?_;refine cI ?_
   have hlt:i<l.length:=by omega
   have e:l.getD i []=l[i]:=by simp [List.getD,hlt]
   have hm:x ∈ l:=by rw [h98,e];exact aAx hlt
   have hx:l.idxOf x=i:=by
    have e2:l=l.take i++l[i]::l.drop (i+1):=by rw [← ZZ hlt,amx]
    rw [e2,List.idxOf_append,Zy he,h98,e]
    rw [← ZZ hlt,ZZ hlt,cVx,ZK]
    omega
   unfold OA
   rw [Zz hm,hx]
  refine U 8519200840010 ?_;refine am (i+1) ?_ ?_
  ·exact ⟨by omega,fun hm=>by
    rw [ZH O] at hm
    rcases bcx.1 hm with h|h
    exact he h
    ·have e:l.getD i []=l[i]:=by simp [List.getD,show i<l.length by omega]
     simp at h
     rw [e] at h98
     exact h98 h⟩
  omega
theorem Kx (x:I):OA oL x+1=uX x:=by unfold OA uX;split<;>simp
theorem Ah {gs:List Nat} (s:S3):cd gs prog 50 [mj s] (.c (.bool (bC s))):=by
 refine ae 26 func50 fun _ _ _ _=>?_;refine eA ?_
 refine aq (ee 3 fun p1=>?_)
 refine U 1250906751 ?_;refine aH 6 (fun g27=>?_) fun g27=>?_
 ·refine U 8000300070005169000510000000044441100000000444 ?_;refine cB ?_
  unfold bC
  (simp_all;omega)
 refine U 150025090 ?_;refine aH 11 (fun g27_2=>?_) fun g27_2=>?_
 ·refine U 800030007000516900051000000004444 ?_;refine cB ?_
  unfold bC
  (simp_all;omega)
 refine U 501000 ?_
 refine aq (ak (xZ s.2.2) ?_)
 refine U 550030 ?_;refine an (fun h27=>?_) fun h27=>?_
 ·refine U 800030007000516 ?_;refine cB ?_
  unfold bC
  (simp_all;done)
 refine U 52509067810 ?_;refine an (fun h30=>?_) fun h30=>?_
 ·refine U 501006 ?_
  refine aq (ak (xZ s.2.1) ?_)
  refine U 80003000700051 ?_;refine cB ?_
  unfold bC
  (simp_all;done)
 refine U 800070005160000501006810 ?_;refine cB ?_
 unfold bC
 (simp_all;done)
theorem zP {gs:List Nat} (s:S3):cd gs prog 52 [mj s] (.c (.bool (bC s))):=by
 have hw:fL s.1=[]↔¬ (1≤s.1∧s.1≤5):=zE s.1
 refine ae 22 func52 fun _ _ _ _=>?_;refine eA ?_
 refine aq (ee 3 fun p1=>?_)
 refine U 50906751 ?_
 refine aq (ak (G1 s.1) ?_)
 refine U 160000 ?_;refine aH 7 (fun g21=>?_) fun g21=>?_
 ·refine U 800030007000516900051000000004444 ?_;refine cB ?_
  unfold bC
  (simp_all;omega)
 refine U 501000 ?_
 refine aq (ak (ut s.2.2) ?_)
 refine U 550030 ?_;refine an (fun h21=>?_) fun h21=>?_
 ·refine U 800030007000516 ?_;refine cB ?_
  unfold bC
  (simp_all;done)
 refine U 52509067810 ?_;refine an (fun h24=>?_) fun h24=>?_
 ·refine U 501006 ?_
  refine aq (ak (ut s.2.1) ?_)
  refine U 80003000700051 ?_;refine cB ?_
  unfold bC
  (simp_all;done)
 refine U 800070005160000501006810 ?_;refine cB ?_
 unfold bC
 (simp_all;done)
end
end Am
end Go.Proofs.YtghminnpfnkbjaaGreatDoor
