/- What the law leans on, part 9 -/
import Derived.Test.YtghminnpfnkbjaaGreatDoorM8RequestBody
set_option maxRecDepth 100000
set_option maxHeartbeats 8000000
variable {gs:List Nat}
open Go.Proofs.Tryz
open List (set_cons_zero set_cons_succ cons_append nil_append length_cons length_nil)
namespace Go.Proofs.YtghminnpfnkbjaaGreatDoor
set_option linter.unusedVariables false
namespace Am
open Go.RowKit
section
variable {gs:List Nat} [ib gs]
theorem E8 [rz gs] (l:I) (most:Int) (hl:l.length≤1000000000):cd gs prog 162 [ap l,.c (.int .i64 most)] (.err (az l most)):=by
 refine ae 20 func162 fun _ _ _ _=>?_;refine U 516000016207516 ?_;refine an (fun h47=>?_) fun h47=>?_
 ·refine eA ?_;refine jq (cK 1) ?_;refine U 51 ?_
  refine jR (Oh (l9 (eN (hv:=aa.errN (by unfold az;rw [Zz (by simpa using h47)])))))
 refine U 51214000016 ?_;refine an (fun h49=>?_) fun h49=>?_
 ·refine eA ?_;refine jq (cK 2) ?_;refine U 51 ?_
  refine jR (Oh (l9 (eN (hv:=aa.errN (by unfold az;rw [Zy (by simpa using h47),Zz h49])))))
 refine U 16 ?_
 refine aq (ak (FM l hl) ?_)
 refine U 5130 ?_;refine an (fun h51=>?_) fun h51=>?_
 ·refine eA ?_;refine jq (cK 7) ?_;refine U 51 ?_
  refine jR (Oh (l9 (eN (hv:=aa.errN (by unfold az;rw [Zy (by simpa using h47),Zy h49,Zz (by simpa using h51)])))))
 refine U 516840010 ?_
 refine jR (eN (hv:=aa.nilE (by unfold az;rw [Zy (by simpa using h47),Zy h49,Zy (by simpa using h51)])))
theorem Qg [rz gs] (l:I) (most:Int) (hl:l.length≤1000000000):cd gs prog 103 [ap l,.c (.int .i64 most)] (.tup 2 (fl [bc (if az l most=0 then l else []),.err (az l most)])):=by
 refine ae 15 func103 fun _ _ _ _=>?_;refine U 11675116 ?_
 refine aq (ak (E8 l most hl) ?_)
 refine U 55000001651 ?_;refine an (fun h59=>?_) fun h59=>?_
 ·refine U 51116 ?_
  refine jR (l9 (eN (hv:=cT (aa.nilS' (by rw [Zy h59];rfl)) Z)))
 refine U 16810 ?_
 refine aq (Km ?_)
 refine U 80007000511 ?_
 have h:az l most=0:=by omega
 exact cT (aa.bs (by rw [Zz h])) (aa.nilE h)
theorem Qh [rz gs] (l:I) (most:Int) (hl:l.length≤1000000000):cd gs prog 131 [bc l,.c (.int .i64 most)] (.tup 2 (fl [ap (if az l most=0 then l else []),.err (az l most)])):=by
 refine ae 17 func131 fun _ _ _ _=>?_;refine U 165116 ?_
 first|refine jq D8 ?_|refine kj Se ?_|refine jq YE ?_
 refine U 116751 ?_
 refine aq (ak (E8 l most hl) ?_)
 refine U 55000001651 ?_;refine an (fun h68=>?_) fun h68=>?_
 ·refine U 51116 ?_
  refine jR (l9 (eN (hv:=cT (aa.strL (by rw [Zy h68])) Z)))
 refine U 8000700051116810 ?_
 have h:az l most=0:=by omega
 exact cT (aa.strL (by rw [Zz h])) (aa.nilE h)
theorem qq {gs:List Nat} (l:I) (most:Int) (hl:l.length≤1000000000):cd gs prog 178 [ap l,.c (.int .i64 most)] (.c (.int .i64 (az l most:Nat))):=by
 refine ae 15 func178 fun _ _ _ _=>?_;refine U 5240000167516 ?_;refine an (fun h55=>?_) fun h55=>?_
 ·refine U 516 ?_
  refine jR (l9 (eN (hv:=cI (by unfold az;rw [jP];rfl))))
 refine U 52140000167810 ?_;refine an (fun h58=>?_) fun h58=>?_
 ·refine U 516 ?_
  refine jR (l9 (eN (hv:=cI (by unfold az;rw [jK,Zz h58];rfl))))
 refine U 167810 ?_
 refine aq (ak (Jh l hl) ?_)
 refine U 530 ?_;refine an (fun h61=>?_) fun h61=>?_
 ·refine U 516 ?_
  refine jR (l9 (eN (hv:=cI (by unfold az;rw [jK,Zy h58,Zz (by simpa using h61)];rfl))))
 refine U 516810 ?_
 refine jR (eN (hv:=cI (by unfold az;rw [jK,Zy h58,Zy (by simpa using h61)];rfl)))
end
section
variable {gs:List Nat} [ib gs]
open Go.RowKit Cal
theorem Pj (n:Nat) (s:W8) (hs:vV s):AC gs prog 49 [iu n s] [.op 0 (some n) 0] (fun r H'=>r=.tup 2 (fl [bc (ry s),.err (ip s)])∧H'=[iu n s]):=by
 have hsd:=hs.d
 have bad:∀ {e},ip s=e→e≠0→ry s=[]:=fun h h0=>by unfold ry;rw [h,Zy h0]
 refine ae 35 func49 fun _ _ _ _=>?_;refine U 2075116 ?_;refine gY 0 rfl fun go gd zs hzs=>?_;refine U 515000005010004016 ?_;refine an (fun h140=>?_) fun h140=>?_
 ·refine ia ?_;refine dQ (.rd 0 (.rd 1 (.rd 2 (.rd 3 (.rd 4 (.rd 5 .done)))))) ?_;refine U 5000070 ?_;refine aJ (en 2 1 false) ?_;refine U 300050007000880707010000 ?_
  have e:ip s=s.k:=by unfold ip;rw [jP]
  exact iZ (gd:=fun z:CH s.fr=>z.1.1) (E:=CD s) (.inl rfl) ⟨(n,go,gd,zs),hzs⟩ [0,1,2,3] jD rfl (di rfl bo bo) (cT (by rw [bad e O];exact cN) (aa.err e.symm))
 refine U 512350904016 ?_;refine an (fun h142=>?_) fun h142=>?_
 ·refine ia ?_;refine dQ (.rd 0 (.rd 1 (.rd 2 .done))) ?_;refine aJ (cK 23) ?_;refine U 3000500070008807070 ?_
  have e:ip s=24:=by unfold ip;rw [jK,Zz (by intro h;rw [h] at h142;simp at h142)]
  exact iZ (gd:=fun z:CH s.fr=>z.1.1) (E:=CD s) (.inl rfl) ⟨(n,go,gd,zs),hzs⟩ [0,1,2,3] jD rfl (di rfl bo bo) (cT (by rw [bad e O];exact cN) (aa.err e.symm))
 refine U 5123501004016 ?_;refine an (fun h144=>?_) fun h144=>?_
 ·refine ia ?_;refine dQ (.rd 0 (.rd 1 (.rd 2 .done))) ?_;refine aJ (cK 2) ?_;refine U 3000500070008807070 ?_
  have hf0:s.fr=[]:=Z5 O
  have e:ip s=3:=by unfold ip;rw [jK,Zy (by simp [hf0]),jP]
  exact iZ (gd:=fun z:CH s.fr=>z.1.1) (E:=CD s) (.inl rfl) ⟨(n,go,gd,zs),hzs⟩ [0,1,2,3] jD rfl (di rfl bo bo) (cT (by rw [bad e O];exact cN) (aa.err e.symm))
 refine U 501004016840010 ?_
 refine aw (aN 2 (K8 s.d gd O) ?_)
 refine U 7000511 ?_
 have hf0:s.fr=[]:=Z5 O
 have e:ip s=0:=by unfold ip;rw [jK,Zy (by simp [hf0]),jK]
 exact iZ (gd:=fun z:CH s.fr=>z.1.1) (E:=CD s) (.inl rfl) ⟨(n,go,gd,zs),hzs⟩ [0,1,2,3] jD rfl (di rfl bo bo) (cT (aa.bs (by unfold ry;rw [Zz e])) (aa.nilE e))
theorem Sk (n:Nat) (s:W8) (z:Int) (hz:-9223372036854775808≤z∧z≤9223372036854775807) (hs:vV s):AC gs prog 44 [iu n s] [.op 0 (some n) 0,.c (.int .i64 z)] (fun r H'=>r=.c (.tuple #[])∧H'=[iu n (fH 2 (jz z) 0 s)]):=by
 have hl:=(sW z hz.1 hz.2).2
 refine ae 8 func44 fun _ _ _ _=>?_;refine U 11200 ?_
 refine aq (ak (Qn z hz.1 hz.2) ?_)
 refine aw (aN 0 (qu n s 2 (jz z) 0 hs O) ?_)
 refine U 5 ?_
 exact bi (.inr rfl) _ [_] [0] jD rfl (br rfl) ⟨rfl,rfl⟩
theorem xJ (n:Nat) (s:W8) (b:I) (hb:b.length≤1000000) (hs:vV s):AC gs prog 42 [iu n s] [.op 0 (some n) 0,bc b] (fun r H'=>r=.c (.tuple #[])∧H'=[iu n (fH 4 b 0 s)]):=by
 refine ae 7 func42 fun _ _ _ _=>?_;refine U 11200 ?_
 refine aw (aN 0 (qu n s 4 b 0 hs hb) ?_)
 refine U 5 ?_
 exact bi (.inr rfl) _ [_] [0] jD rfl (br rfl) ⟨rfl,rfl⟩
theorem CW [rz gs] (n:Nat) (s:W8) (t:I) (most:Int) (ht:t.length≤1000000) (hs:vV s):AC gs prog 47 [iu n s] [.op 0 (some n) 0,ap t,.c (.int .i64 most)] (fun r H'=>r=.c (.tuple #[])∧H'=[iu n (fH 12 (if az t most=0 then t else []) (az t most) s)]):=by
 have hl:(if az t most=0 then t else []).length≤1000000:=by split<;>first|omega|simp
 refine ae 18 func47 fun _ _ _ _=>?_;refine U 116 ?_
 refine aq (ak (Qg t most O) ?_)
 refine U 1112005119009001 ?_
 refine aw (aN 0 (qu n s 12 (if az t most=0 then t else []) (az t most) hs hl) ?_)
 refine U 5 ?_
 exact bi (.inr rfl) _ [_] [0] jD rfl (br rfl) ⟨rfl,rfl⟩
theorem RH (n:Nat) (s:W8) (t:I) (ht:t.length≤1000000) (hs:vV s):AC gs prog 99 [iu n s] [.op 0 (some n) 0,ap t] (fun r H'=>r=.c (.tuple #[])∧H'=[iu n (fH 6 (iK t) (bq t).2 s)]):=by
 have hl:(iK t).length≤1000000:=Z7 (wx t) jD
 refine ae 15 func99 fun _ _ _ _=>?_;refine U 16 ?_
 refine aq (ak (RG t O) ?_)
 refine U 1112005119009001 ?_
 refine aw (aN 0 (qu n s 6 (iK t) (bq t).2 hs hl) ?_)
 refine U 5 ?_
 exact bi (.inr rfl) _ [_] [0] jD rfl (br rfl) ⟨rfl,rfl⟩
theorem KJ (n:Nat) (s:W8) (z:Int) (hs:vV s):AC gs prog 43 [iu n s] [.op 0 (some n) 0,.c (.int .i64 z)] (fun r H'=>r=.c (.tuple #[])∧H'=[iu n (fH 3 (k8 z) (oR z) s)]):=by
 have hf:cd gs prog 101 [.c (.int .i64 z)] (.tup 2 (fl [bc (k8 z),.err (oR z)])):=by
  unfold k8 oR
  by_cases h:z<0∨32767<z
  ·rw [Zz h,Zz h];exact KI z h
  ·rw [Zy h,Zy h]
   have:=OY (gs:=gs) z.toNat O
   rwa [bGx O] at this
 have hl:(k8 z).length≤1000000:=by
  unfold k8
  split
  ·simp
  ·rw [nv O]
   have:=(tX (m:=z.toNat) O).2
   omega
 refine ae 15 func43 fun _ _ _ _=>?_;refine U 16 ?_
 refine aq (ak hf ?_)
 refine U 1112005119009001 ?_
 refine aw (aN 0 (qu n s 3 (k8 z) (oR z) hs hl) ?_)
 refine U 5 ?_
 exact bi (.inr rfl) _ [_] [0] jD rfl (br rfl) ⟨rfl,rfl⟩
theorem Rt (n:Nat) (s:W8) (b:I) (hb:b.length≤1000000) (hs:vV s):AC gs prog 84 [iu n s] [.op 0 (some n) 0,bc b] (fun r H'=>r=.c (.tuple #[])∧H'=[iu n (uz b s)]):=by
 refine ae 16 func84 fun _ _ _ _=>?_;refine U 116 ?_
 refine aq (ak (yC b O) ?_)
 refine aw (aN 0 (tI n s (aR b).2) ?_)
 refine U 5 ?_;refine gY 0 rfl fun go gd zs hzs=>?_;refine U 55000005010004016 ?_;refine aaa (fun h132=>?_) fun h132=>?_
 ·refine U 10 ?_
  have hP:uz b s=bX (aR b).2 s:=by unfold uz;rw [jK]
  rw [hP]
  exact bK (gd:=fun z:CH (bX (aR b).2 s).fr=>z.1.1) (E:=CD (bX (aR b).2 s)) (.inr rfl) _ ⟨(n,go,gd,zs),hzs⟩ [0,1,2,3] jD rfl (br rfl) ⟨rfl,rfl⟩
 have hk:(bX (aR b).2 s).k=0:=by omega
 refine jE (pU n (bX (aR b).2 s) zs 0 1 2 3 hzs rfl rfl rfl rfl jD (cO rfl) (cO rfl) Z (ZA _) (fun _ _=>Z) (ZA _) (fun _ _=>Z)) ?_
 dsimp only [set_cons_zero,set_cons_succ,cons_append,nil_append,length_cons,length_nil,Nat.zero_add,Nat.reduceAdd]
 have hF:bX (aR b).2 s=s:=by
  have ⟨fr,d,k⟩:=s
  unfold bX at hk ⊢
  split
  ·rename_i h
   rw [Zz h] at hk
   have h:k=0:=h
   have hk0:(aR b).2=0:=hk
   rw [h,hk0]
  rfl
 rw [hF]
 refine U 11200 ?_
 refine aw (aN 0 (Im n s b hs O) ?_)
 refine U 5 ?_
 have hP:uz b s=cV b s:=by unfold uz;rw [Zz hk]
 rw [hP]
 exact bi (.inr rfl) _ [_] [0] jD rfl (br rfl) ⟨rfl,rfl⟩
def XX:W8:=⟨[],[],0⟩
theorem lc {α:Type} (l:List α) (n i:Nat) (x:α) (h:n≤i):(l.set i x).take n=l.take n:=by
 rw [c7x,List.set_eq_of_length_le]
 rw [ZK];omega
theorem W6 {G:Gh} {env:List (Nat×CV)} {b0:Nat→CV} {H:List (Option Nat×aW)} (n i:Nat) {f:Nat→CV} (hi:H[i]?=some (some n,.blk 3 f)) (h0:aa (f 0) (.c (.slice none 0 0))) (h1:aa (f 1) (.c (.slice none 0 0))) (h2:aa (f 2) (.err 0)):cJ G ⟨env,b0,H⟩ ⟨env,b0,H.set i (iu n XX)⟩:=by
 have hil:=(ZC.1 hi).1
 have os0:∀ {j k:Nat},aa (.c (.slice none 0 0)) (.os j none 0 0 k):=fun al St w v h=>⟨rfl,h⟩
 intro St a w hr
 obtain ⟨S1,s1,r1⟩:=f8 (G:=G) (s:=⟨env,b0,H⟩) (gv 2 uc u6 []) St a w hr
 obtain ⟨S2,s2,r2⟩:=f8 (G:=G) (s:=⟨env,b0,H++[(none,.blk 0 (gv 2 uc u6 []))]⟩) (aV []) S1 a w r1
 obtain ⟨S3,s3,r3⟩:=bag_new (G:=G) (env:=env) (b0:=b0) (H:=H++[(none,.blk 0 (gv 2 uc u6 []))]++[(none,.blk 0 (aV []))]) S2 a w r2
 obtain ⟨S4,s4,r4⟩:=pU (G:=G) (env:=env) (b0:=b0) (H:=H++[(none,.blk 0 (gv 2 uc u6 []))]++[(none,.blk 0 (aV []))]++[ka []]) n XX [] i H.length (H.length+1) (H.length+2) rfl (go:=none) (gd:=none) (No:=0) (Nd:=0) (f:=f) (Fo:=gv 2 uc u6 []) (Fd:=aV [])
  (by rw [Z8,Z8,ZF hil];exact hi) (by simp) (by simp []) (by simp []) (by simp;omega) (h0.trans os0) (h1.trans os0) h2 (ZA _) (fun a h=>absurd h (ZO a)) (ZA _) (fun a h=>absurd h (ZO a)) S3 a w r3
 obtain ⟨S5,s5,r5⟩:=ce (G:=G) (H':=H.set i (iu n XX)) (List.range H.length) (gQ _) (by
  rw [gR _ _ (by simp)]
  simp only [Z8]
  rw [lc _ _ _ _ O,lc _ _ _ _ O,lc _ _ _ _ O,c7x,cYx]) S4 a w r4
 exact ⟨S5,fun b hb=>s5 b (s4 b (s3 b (s2 b (s1 b hb)))),r5⟩
theorem YV:vV XX:=⟨by decide,fun _ h=>(by cases h),by decide⟩
def yY (v:VV):CV:=.agg 5 (fl [.c (.int .i64 v.kind),.c (.int .i64 v.n),.c (.bool v.is),bc v.b,ap v.t])
structure Tl (v:VV):Prop where
 n:-9223372036854775808≤v.n∧v.n≤9223372036854775807
 b:v.b.length≤1000000
 t:v.t.length≤1000000
theorem ur {gs:List Nat} (n:Nat) (s:R8) (tag:Int) (b:I) (hs:XT s) (ht:0≤tag∧tag<256) (hb:b.length≤1000000):AC gs prog 135 [sQ n s] [.op 0 (some n) 0,.c (.int .i64 tag),bc b] (fun r H'=>r=.c (.tuple #[])∧H'=[sQ n (ml tag b s)]):=by
 refine ae 17 func135 fun _ _ _ _=>?_;refine U 523167 ?_;refine aaa (fun h64=>?_) fun h64=>?_
 ·refine U 111200810 ?_
  refine aq (ak (QW tag b ht O) ?_)
  refine aw (aN 0 (zZ n s (bB tag b) hs) ?_)
  refine U 5 ?_
  have hP:ml tag b s=kW (bB tag b) s:=by unfold ml;rw [jK]
  rw [hP]
  exact bi (.inr rfl) _ [_] [0] jD rfl (br rfl) ⟨rfl,rfl⟩
 refine kN 0 rfl fun gr=>?_;refine U 10004016 ?_
 refine aw (bg 1 (ph ⟨s.tags,s.rows,3⟩ 1 gr) ?_ ?_)
 exact sb
 refine U 300070005 ?_
 have hP:ml tag b s=⟨s.tags,s.rows,3⟩:=by unfold ml;rw [jP]
 rw [hP]
 exact bG (.inl rfl) n ⟨s.tags,s.rows,3⟩ 1 (br rfl) Z rfl rfl rfl (by exact Z) (by exact cO rfl) (by exact Z) (ZA _) (fun _ _=>by exact Z)
def Ir (v:VV):CV→List (Option Nat×aW)→Prop:=fun r H'=>(∃ b,r=.tup 3 (fl [.c (.int .i64 (aF v).1),bc b,.c (.int .i64 ((aF v).2.2:Nat))])∧((aF v).2.2=0→b=(aF v).2.1))∧H'=[]
theorem mF {v:VV} {t:Int} {b b':I} {e:Nat} (h:aF v=(t,b,e)) (hb:e=0→b'=b):Ir v (.tup 3 (fl [.c (.int .i64 t),bc b',.c (.int .i64 (e:Nat))])) []:=by
 refine ⟨⟨b',by rw [h],fun h0=>by rw [h] at h0 ⊢;exact hb h0⟩,rfl⟩
structure CB (s:R8):Prop where
 ok:XT s
 sum:∀ j,cw (s.rows.getD j [])≤1000000
 tag:∀ x ∈ s.tags,0≤x∧x<256
 lt:s.tags.length≠0→s.tags.length<s.rows.length
theorem FF {gs:List Nat} (n:Nat) (s:R8) (hs:CB s):AC gs prog 72 [sQ n s] [.op 0 (some n) 0] (fun r H'=>r=.tup 2 (fl [bc (pw s),.c (.int .i64 (fT s:Nat))])∧H'=[sQ n s]):=by
 have hk0:=FR hs.ok 0
 have hs0:=hs.sum 0
 have bad:∀ {e},fT s=e→e≠0→pw s=[]:=fun h h0=>by unfold pw;rw [h,Zy h0]
 refine ae 48 func72 fun _ _ _ _=>?_;refine U 75116 ?_;refine kN 0 rfl fun gr=>?_;refine U 525010004016 ?_;refine an (fun h133=>?_) fun h133=>?_
 ·refine ia ?_;refine dQ (.rd 0 (.rd 1 (.rd 2 (.rd 3 (.rd 4 (.rd 5 .done)))))) ?_;refine U 5000070 ?_;refine aJ (en 2 1 false) ?_;refine U 30007000880707010000 ?_
  have e:fT s=s.e:=by unfold fT;rw [jP]
  exact bG (.inl rfl) n s 1 (di rfl bo bo) (cT (by rw [bad e O];exact cN) (cI (by rw [e]))) rfl rfl rfl (by exact Z) (by exact cO rfl) (by exact Z) (ZA _) (fun _ _=>by exact Z)
 refine U 523509040167810 ?_;refine an (fun h136=>?_) fun h136=>?_
 ·refine U 300070005116 ?_
  have e:fT s=24:=by unfold fT;rw [jK,jP]
  exact bG (.inl rfl) n s 1 (di rfl bo bo) (cT (by rw [bad e O];exact cN) (cI (by rw [e];rfl))) rfl rfl rfl (by exact Z) (by exact cO rfl) (by exact Z) (ZA _) (fun _ _=>by exact Z)
 refine U 6810 ?_
 refine aq (aM 0 1 da fun p1=>?_)
 refine U 523501004016751 ?_;refine aaa (fun h140=>?_) fun h140=>?_
 ·refine U 7810 ?_
  first
   |(have hiE:i=(s.rows.getD 0 []).length:=by omega
     subst hiE
     dsimp only
     rw [ZW] at *
     have hfl:=gW (s.rows.getD 0 []))
   |(have h00:s.rows.getD 0 []=[]:=by rw [ZB,Z0 O];rfl
     have hfl:((s.rows.getD 0 []).flatten).length=0:=by rw [h00];rfl)
  refine U 52316 ?_;refine an (fun h145=>?_) fun h145=>?_
  ·refine U 300070005116 ?_
   first
    |(exfalso;simp at h145;done)
    |(have e:fT s=3:=by unfold fT;rw [jK,jK,jP]
      exact bG (.inl rfl) n s 1 (di rfl bo bo) (cT (by rw [bad e O];exact cN) (cI (by rw [e];rfl))) rfl rfl rfl (by exact Z) (by exact cO rfl) (by exact Z) (ZA _) (fun _ _=>by exact Z))
  refine U 51116810 ?_;refine jE (freeze 2 rfl) ?_
  first
   | refine jE (er 2 ((s.rows.getD 0 []).flatten) rfl rfl rfl rfl) ?_
   | refine jE (ja 2 [] rfl rfl rfl rfl .nil) ?_
  refine U 7000 ?_
  have e:fT s=0:=by unfold fT;rw [jK,jK,jK]
  exact bG (.inl rfl) n s 1 (di rfl bo bo) (cT (aa.bs (by unfold pw;rw [Zz e];(rw [h00];rfl))) (cI (by rw [e];rfl))) rfl rfl rfl (by exact Z) (by exact cO rfl) (by exact Z) (ZA _) (fun _ _=>by exact Z)
 refine U 20513502000000501004016 ?_;refine ar (α:=Nat×Option Nat) [4,6,36,37,38,39,40,41,42,43] (fun (i,g)=>[(4,.os 2 g 0 (((s.rows.getD 0 []).take i).flatten).length 1),(36,.c (.int .i64 (i:Nat)))]) (fun (i,g)=>[(some n,.blk 3 (ph s 1 gr)),(gr,.blk s.rows.length (dL s.rows)),(g,.blk (((s.rows.getD 0 []).take i).flatten).length (aV ((s.rows.getD 0 []).take i).flatten))]) (fun i=>i.1≤(s.rows.getD 0 []).length) (fun i=>(s.rows.getD 0 []).length-i.1) ((0,p1)) ?_ (fun _=>rfl) ?_ ?_ ?_
 exact ZL _
 exact .cons (cO rfl) (.cons Z .nil)
 exact .same (.same (.blk rfl (fun j hj=>absurd hj (ZO j)) .nil))
 ·rintro ⟨i,g⟩ (hi:i≤(s.rows.getD 0 []).length)
  refine U 7526 ?_;refine an (fun h141=>?_) fun h141=>?_
  ·refine U 51607006207810 ?_
   have hf1:=jI (ls:=s.rows.getD 0 []) (i:=i) O
   have hf2:=qc (s.rows.getD 0 []) (i+1)
   have hf3:=gW ((s.rows.getD 0 []).take i)
   refine U 11200 ?_
   refine aw (ay rfl rfl rfl (ZA _) (fun _ _=>Z) (cX rfl) rfl (fun j hj=>by simp only [anx];exact Z) underlying23 dV fR da jt rfl O (fun j hj=>rfl) rfl rfl (fun p2=>?_))
   refine U 8519200840051 ?_
   refine am ((i+1,p2)) ?_ ?_ (h5:=?_) (h7:=?_)
   show i+1≤(s.rows.getD 0 []).length;omega
   show (s.rows.getD 0 []).length-(i+1)<(s.rows.getD 0 []).length-i;omega
   ·simp only [iX (show i<(s.rows.getD 0 []).length by omega)]
    exact .cons (cO rfl) (.cons (cI O) .nil)
   ·simp only [iX (show i<(s.rows.getD 0 []).length by omega)]
    exact .same (.same (.same .nil))
  refine U 784000200020006000 ?_
  first
   |(have hiE:i=(s.rows.getD 0 []).length:=by omega
     subst hiE
     dsimp only
     rw [ZW] at *
     have hfl:=gW (s.rows.getD 0 []))
   |(have h00:s.rows.getD 0 []=[]:=by rw [ZB,Z0 O];rfl
     have hfl:((s.rows.getD 0 []).flatten).length=0:=by rw [h00];rfl)
  refine U 52316 ?_;refine an (fun h145=>?_) fun h145=>?_
  ·refine U 300070005116 ?_
   first
    |(exfalso;simp at h145;done)
    |(have e:fT s=3:=by unfold fT;rw [jK,jK,jP]
      exact bG (.inl rfl) n s 1 (di rfl bo bo) (cT (by rw [bad e O];exact cN) (cI (by rw [e];rfl))) rfl rfl rfl (by exact Z) (by exact cO rfl) (by exact Z) (ZA _) (fun _ _=>by exact Z))
  refine U 51116810 ?_;refine jE (freeze 2 rfl) ?_
  first
   | refine jE (er 2 ((s.rows.getD 0 []).flatten) rfl rfl rfl rfl) ?_
   | refine jE (ja 2 [] rfl rfl rfl rfl .nil) ?_
  refine U 7000 ?_
  have e:fT s=0:=by unfold fT;rw [jK,jK,jK]
  exact bG (.inl rfl) n s 1 (di rfl bo bo) (cT (aa.bs (by unfold pw;rw [Zz e];done)) (cI (by rw [e];rfl))) rfl rfl rfl (by exact Z) (by exact cO rfl) (by exact Z) (ZA _) (fun _ _=>by exact Z)
theorem Ad {s:R8} (h:CB s):XT ⟨s.tags.take (s.tags.length-1),s.rows,s.e⟩:=⟨by have:=h.ok.n;simp only [ZK];omega,h.ok.r,h.ok.k⟩
theorem PG (t:Int) (l:Zx):lX (t,l)=if t=49 then (gz l).flatten else l.flatten:=rfl
theorem HR {l:List Int} {i:Nat} (h:i<l.length-1):qG l i=qG (l.take (l.length-1)) i:=by
 simp only [qG,ZB,aXx,h,if_true]
def ll (t:Int) (l:Zx):Zx:=if t=49 then gz l else l
theorem DT (t:Int) (l:Zx):lX (t,l)=(ll t l).flatten:=by unfold ll;rw [PG];split<;>rfl
theorem R2 (t:Int) (l:Zx):(ll t l).length=l.length∧cw (ll t l)=cw l:=by
 unfold ll
 split
 exact ⟨nM l,CZ (jJ l)⟩
 exact ⟨rfl,rfl⟩
theorem PE (v:VV):0≤(aF v).1∧(aF v).1<256:=by
 unfold aF
 repeat' split
 all_goals (constructor<;>dsimp only<;>omega)
theorem Lg {v:VV} (h:Tl v):(aF v).2.1.length≤1000000:=by
 have h1:=h.b
 have h2:=h.t
 have h3:=(sW v.n h.n.1 h.n.2).2
 have h4:=wx v.t
 unfold aF
 split
 show (jz v.n).length≤_;omega
 ·split
  show (jz v.n).length≤_;omega
  ·split
   ·show [if v.is then (255:UInt8) else 0].length≤_;simp
   ·split
    exact h1
    ·split
     ·show (if az v.t v.n=0 then v.t else []).length≤_;split<;>first|omega|simp
     ·split
      show (iK v.t).length≤_;omega
      ·split
       ·show (if yV v.n then eJ (DG v.n) else []).length≤_
        split
        exact Z7 (aqx (show (eJ (DG v.n)).length=15 from rfl)) jD
        ·simp
       ·show (k8 v.n).length≤_
        unfold k8
        split
        ·simp
        ·rw [nv O]
         have:=(tX (m:=v.n.toNat) O).2
         omega
theorem Du {gs:List Nat} (n:Nat) (s:R8) (v:VV) (hs:CB s) (hv:Tl v) (hB:v.kind≠1→v.kind≠2→v.kind≠11→AC gs prog 138 [] [yY v] (Ir v)):AC gs prog 68 [sQ n s] [.op 0 (some n) 0,yY v] (fun r H'=>r=.c (.tuple #[])∧H'=[sQ n (dm v s)]):=by
 have hsn:=hs.ok.n
 have hsr:=hs.ok.r
 have hvb:=hv.b
 have hkk:=FR hs.ok s.tags.length
 have hss:=hs.sum s.tags.length
 refine ae 183 func68 fun _ _ _ _=>?_;refine eA ?_
 refine aq (ee 5 fun p1=>?_)
 refine U 75 ?_;refine kN 0 rfl fun gr=>?_;refine jE (freeze 1 rfl) ?_;refine jE (lH 3 (m:=5) rfl rfl jD) ?_
 dsimp only [set_cons_zero,set_cons_succ,cons_append,nil_append,length_cons,length_nil,Nat.zero_add,Nat.reduceAdd]
 refine U 525010004016 ?_;refine an (fun h81=>?_) fun h81=>?_
 ·refine U 30007000 ?_
  rw [show dm v s=s by unfold dm;rw [jP]]
  exact bG (.inl rfl) n s 2 (br rfl) Z rfl rfl rfl (by exact Z) (by exact cO rfl) (by exact Z) (ZA _) (fun _ _=>by exact Z)
 refine U 512620560906810 ?_;refine an (fun h85=>?_) fun h85=>?_
 ·refine U 601006 ?_
  refine aq (ak (xk v.n) ?_)
  refine U 530 ?_;refine an (fun h86=>?_) fun h86=>?_
  ·refine U 1000401200 ?_
   refine aw (bg 1 (ph ⟨s.tags,s.rows,5⟩ 2 gr) ?_ ?_)
   exact sb
   refine U 4005 ?_
   rw [show dm v s=⟨s.tags,s.rows,5⟩ by unfold dm;rw [jK,jP];unfold nS;rw [Zz (by simp [bO] at h86 ⊢;omega)]]
   exact bG (.inr rfl) n ⟨s.tags,s.rows,5⟩ 2 (br rfl) Z rfl rfl rfl (by exact Z) (by exact cO rfl) (by exact Z) (ZA _) (fun _ _=>by exact Z)
  refine U 52350904016 ?_;refine an (fun h88=>?_) fun h88=>?_
  ·refine U 1000401200 ?_
   refine aw (bg 1 (ph ⟨s.tags,s.rows,6⟩ 2 gr) ?_ ?_)
   exact sb
   refine U 4005 ?_
   rw [show dm v s=⟨s.tags,s.rows,6⟩ by unfold dm;rw [jK,jP];unfold nS;rw [Zy (by simp [bO] at h86 ⊢;omega),jP]]
   exact bG (.inr rfl) n ⟨s.tags,s.rows,6⟩ 2 (br rfl) Z rfl rfl rfl (by exact Z) (by exact cO rfl) (by exact Z) (ZA _) (fun _ _=>by exact Z)
  refine U 207 ?_;refine ar (α:=Nat×Option Nat) [56,57,58,59,60,61,62,63,64,65,66,67,68,69,70,71,72,73,74,75,76] (fun i=>[]) (fun (i,g)=>[(some n,.blk 3 (ph (fm s i) 2 g)),(p1,.frz 5 (fl [.c (.int .i64 v.kind),.c (.int .i64 v.n),.c (.bool v.is),bc v.b,ap v.t])),(g,.blk (fm s i).rows.length (dL (fm s i).rows))]) (fun i=>i.1≤s.tags.length+2-s.rows.length) (fun i=>s.tags.length+2-s.rows.length-i.1) ((0,gr)) ?_ (fun _=>rfl) ?_ ?_ ?_
  exact ZL _
  ·(repeat (exact bh.nil))
  ·(show aD _ [(some n,aW.blk 3 (ph (fm s 0) 2 gr)),_,(gr,.blk (fm s 0).rows.length (dL (fm s 0).rows))];rw [show fm s 0=s by unfold fm;simp];exact aD.refl _)
  ·rintro ⟨i,g⟩ (hi:i≤s.tags.length+2-s.rows.length)
   have hml:(fm s i).rows.length=s.rows.length+i:=by simp [fm]
   have hmt:(fm s i).tags.length=s.tags.length:=rfl
   refine U 77 ?_;refine dQ (.rd 0 (.rd 1 (.rd 2 (.rd 3 (.rd 4 (.rd 5 (.rd 6 (.rd 7 (.rd 8 (.rd 9 (.rd 10 (.rd 11 .done)))))))))))) ?_;refine U 8808003000020000100009000005000070200001000080000005000070 ?_;refine an (fun h91=>?_) fun h91=>?_
   ·refine U 50100401120020810 ?_
    refine aq (aM 1 1 GU fun p2=>?_)
    refine aA (cE 3 1 (dL [[]]) rfl (ZA _) (fun j hj=>by rcases j with _|j<;>first|exact aa.nilS _ _|omega)) ?_
    refine aw (aB zQ (l2:=[[]]) rfl rfl rfl rfl (aqx (ZS _)) (fun _ _=>Z) (aI rfl (.inl rfl) jD) rfl (fun j hj=>by rw [Nat.zero_add];exact Z) underlying107 TH Tx GU T0 rfl (by simp;omega) (by simp;omega) (fun j hj=>rfl) rfl rfl (ZS _) (fun p3=>?_))
    refine U 10040 ?_
    refine aw (bg 1 (ph (fm s (i+1)) 2 p3) ?_ ?_)
    ·exact (fun j hj=>by rcases j with _|_|_|j<;>first|exact Z|exact cO (by rw [qx]))
    refine U 84005 ?_
    refine am ((i+1,p3)) ?_ ?_ (h7:=?_)
    ·(show i+1≤_;omega)
    ·(show _-(i+1)<_-i;omega)
    ·simp only [qx];exact aD.refl _
   refine U 784000200020006000 ?_
   have hiE:i=s.tags.length+2-s.rows.length:=by omega
   have hpl:=nX (s.tags.length+2) s.rows
   dsimp only
   rw [tc s i _ hiE]
   rw [tc s i _ hiE] at hml
   have hLl:([]++s.tags++[v.n]).length=s.tags.length+1:=by simp
   refine lQ (.rd 0 (.rd 2 (.rd 3 (.rd 4 (.rd 5 (.rd 7 (.rd 8 (.two 1 (.two 6 (.one 9 (.one 10 (.rd 11 (.rd 12 (.one 13 .done))))) 9 (.one 6 (.one 10 (.rd 11 (.rd 12 (.one 13 .done)))))) 9 (.one 1 (.one 6 (.one 10 (.rd 11 (.rd 12 (.one 13 .done)))))))))))))) ?_;refine U 6000000050000000100000009000000400000400000 ?_;refine jy kF ?_;refine D4 ?_ ?_
   ·refine HP (aM 0 1 rm fun p2=>?_)
    refine D4 ?_ ?_
    ·refine lP (aB lf (l:=[]) rfl rfl rfl rfl (ZL _) (fun j hj=>absurd hj (ZO j)) (cX rfl) rfl (fun j hj=>by simp only [anx];exact Z) underlying106 oN Ls rm Lv rfl (by (simp;omega)) (by (simp;omega)) (fun j hj=>rfl) rfl rfl (ZS _) (fun p3=>?_))
     refine HP (aM 1 1 rm fun p4=>?_)
     refine lP (aB lf (l2:=[v.n]) rfl rfl rfl rfl (by exact aqx (ZS _)) (fun _ _=>Z) (aI rfl (.inl rfl) jD) rfl (qH (.cons (cI (rfl)) .nil)) underlying106 oN Ls rm Lv rfl (by (simp;omega)) (by (simp;omega)) (bw rfl rfl) rfl rfl (ZS _) (fun p5=>?_))
     refine U 100000009000000 ?_
     refine lP (bn 1 ?_)
     refine U 8700000 ?_
     first
      |(refine jE (freeze 3 rfl) ?_;refine jE (thawC 0 0 3 (ph ⟨([]++s.tags++[v.n]),eT (s.tags.length+2) s.rows,s.e⟩ 2 g) (fun i _=>qG ([]++s.tags++[v.n]) i) rfl rfl Z Z (fun j hj h0=>by rcases j with _|_|_|j<;>first|omega|exact Z) (by simp) (fun a c ha hc=>by obtain rfl:c=0:=O;rw [Nat.zero_add,ZS,afx];exact Z)) ?_;dsimp only [set_cons_zero,set_cons_succ,cons_append,nil_append,length_cons,length_nil,Nat.zero_add,Nat.reduceAdd])
      |(refine jE (freeze 4 rfl) ?_;refine jE (thawC 0 0 4 (ph ⟨([]++s.tags++[v.n]),eT (s.tags.length+2) s.rows,s.e⟩ 2 g) (fun i _=>qG ([]++s.tags++[v.n]) i) rfl rfl Z Z (fun j hj h0=>by rcases j with _|_|_|j<;>first|omega|exact Z) (by simp) (fun a c ha hc=>by obtain rfl:c=0:=O;rw [Nat.zero_add,ZS,afx];exact Z)) ?_;dsimp only [set_cons_zero,set_cons_succ,cons_append,nil_append,length_cons,length_nil,Nat.zero_add,Nat.reduceAdd])
     refine mT 10 (.rd 0 (.rd 1 (.rd 2 (.rd 3 (.rd 4 (.rd 5 (.rd 6 (.rd 7 (.rd 8 (.rd 9 .done)))))))))) ?_;refine U 200001000090000050000701000080000005000070 ?_;refine aJ (dP (i:=([]++s.tags++[v.n]).length) (hz:=by (simp only [ZD,List.length_cons,List.length_nil];omega))) ?_;refine Az ?_
     show cQ _ _ _ _ _ _
     refine aw (bg 1 (dL ((eT (s.tags.length+2) s.rows).set ([]++s.tags++[v.n]).length [])) ?_ ?_)
     exact (fun j hj=>nc (aa.nilS _ _) hj)
     refine U 4005 ?_
     rw [show dm v s=⟨([]++s.tags++[v.n]),(eT (s.tags.length+2) s.rows).set (s.tags.length+1) [],s.e⟩ by unfold dm;rw [jK,jP];unfold nS;rw [Zy (by simp [bO] at h86 ⊢;omega),jK];rfl]
     exact bG (.inr rfl) n ⟨([]++s.tags++[v.n]),(eT (s.tags.length+2) s.rows).set (s.tags.length+1) [],s.e⟩ 2 (br rfl) Z rfl rfl rfl (by exact Z) (by exact cO (by simp)) (by exact Z) (by simp) (fun _ _=>by rw [hLl];exact Z)
    ·refine HP (aM 1 1 rm fun p3=>?_)
     refine lP (aB lf (l:=[]) rfl rfl rfl rfl (ZL _) (fun j hj=>absurd hj (ZO j)) (cX rfl) rfl (fun j hj=>by simp only [anx];exact Z) underlying106 oN Ls rm Lv rfl (by (simp;omega)) (by (simp;omega)) (fun j hj=>rfl) rfl rfl (ZS _) (fun p4=>?_))
     refine lP (aB lf (l2:=[v.n]) rfl rfl rfl rfl (by exact aqx (ZS _)) (fun _ _=>Z) (aI rfl (.inl rfl) jD) rfl (qH (.cons (cI (rfl)) .nil)) underlying106 oN Ls rm Lv rfl (by (simp;omega)) (by (simp;omega)) (bw rfl rfl) rfl rfl (ZS _) (fun p5=>?_))
     refine U 100000009000000 ?_
     refine lP (bn 1 ?_)
     refine U 8700000 ?_
     first
      |(refine jE (freeze 3 rfl) ?_;refine jE (thawC 0 0 3 (ph ⟨([]++s.tags++[v.n]),eT (s.tags.length+2) s.rows,s.e⟩ 2 g) (fun i _=>qG ([]++s.tags++[v.n]) i) rfl rfl Z Z (fun j hj h0=>by rcases j with _|_|_|j<;>first|omega|exact Z) (by simp) (fun a c ha hc=>by obtain rfl:c=0:=O;rw [Nat.zero_add,ZS,afx];exact Z)) ?_;dsimp only [set_cons_zero,set_cons_succ,cons_append,nil_append,length_cons,length_nil,Nat.zero_add,Nat.reduceAdd])
      |(refine jE (freeze 4 rfl) ?_;refine jE (thawC 0 0 4 (ph ⟨([]++s.tags++[v.n]),eT (s.tags.length+2) s.rows,s.e⟩ 2 g) (fun i _=>qG ([]++s.tags++[v.n]) i) rfl rfl Z Z (fun j hj h0=>by rcases j with _|_|_|j<;>first|omega|exact Z) (by simp) (fun a c ha hc=>by obtain rfl:c=0:=O;rw [Nat.zero_add,ZS,afx];exact Z)) ?_;dsimp only [set_cons_zero,set_cons_succ,cons_append,nil_append,length_cons,length_nil,Nat.zero_add,Nat.reduceAdd])
     refine mT 10 (.rd 0 (.rd 1 (.rd 2 (.rd 3 (.rd 4 (.rd 5 (.rd 6 (.rd 7 (.rd 8 (.rd 9 .done)))))))))) ?_;refine U 200001000090000050000701000080000005000070 ?_;refine aJ (dP (i:=([]++s.tags++[v.n]).length) (hz:=by (simp only [ZD,List.length_cons,List.length_nil];omega))) ?_;refine Az ?_
     show cQ _ _ _ _ _ _
     refine aw (bg 1 (dL ((eT (s.tags.length+2) s.rows).set ([]++s.tags++[v.n]).length [])) ?_ ?_)
     exact (fun j hj=>nc (aa.nilS _ _) hj)
     refine U 4005 ?_
     rw [show dm v s=⟨([]++s.tags++[v.n]),(eT (s.tags.length+2) s.rows).set (s.tags.length+1) [],s.e⟩ by unfold dm;rw [jK,jP];unfold nS;rw [Zy (by simp [bO] at h86 ⊢;omega),jK];rfl]
     exact bG (.inr rfl) n ⟨([]++s.tags++[v.n]),(eT (s.tags.length+2) s.rows).set (s.tags.length+1) [],s.e⟩ 2 (br rfl) Z rfl rfl rfl (by exact Z) (by exact cO (by simp)) (by exact Z) (by simp) (fun _ _=>by rw [hLl];exact Z)
   ·refine HP (aM 1 1 rm fun p2=>?_)
    refine HP (aM 0 1 rm fun p3=>?_)
    refine lP (aB lf (l:=[]) rfl rfl rfl rfl (ZL _) (fun j hj=>absurd hj (ZO j)) (cX rfl) rfl (fun j hj=>by simp only [anx];exact Z) underlying106 oN Ls rm Lv rfl (by (simp;omega)) (by (simp;omega)) (fun j hj=>rfl) rfl rfl (ZS _) (fun p4=>?_))
    refine lP (aB lf (l2:=[v.n]) rfl rfl rfl rfl (by exact aqx (ZS _)) (fun _ _=>Z) (aI rfl (.inl rfl) jD) rfl (qH (.cons (cI (rfl)) .nil)) underlying106 oN Ls rm Lv rfl (by (simp;omega)) (by (simp;omega)) (bw rfl rfl) rfl rfl (ZS _) (fun p5=>?_))
    refine U 100000009000000 ?_
    refine lP (bn 1 ?_)
    refine U 8700000 ?_
    first
     |(refine jE (freeze 3 rfl) ?_;refine jE (thawC 0 0 3 (ph ⟨([]++s.tags++[v.n]),eT (s.tags.length+2) s.rows,s.e⟩ 2 g) (fun i _=>qG ([]++s.tags++[v.n]) i) rfl rfl Z Z (fun j hj h0=>by rcases j with _|_|_|j<;>first|omega|exact Z) (by simp) (fun a c ha hc=>by obtain rfl:c=0:=O;rw [Nat.zero_add,ZS,afx];exact Z)) ?_;dsimp only [set_cons_zero,set_cons_succ,cons_append,nil_append,length_cons,length_nil,Nat.zero_add,Nat.reduceAdd])
     |(refine jE (freeze 4 rfl) ?_;refine jE (thawC 0 0 4 (ph ⟨([]++s.tags++[v.n]),eT (s.tags.length+2) s.rows,s.e⟩ 2 g) (fun i _=>qG ([]++s.tags++[v.n]) i) rfl rfl Z Z (fun j hj h0=>by rcases j with _|_|_|j<;>first|omega|exact Z) (by simp) (fun a c ha hc=>by obtain rfl:c=0:=O;rw [Nat.zero_add,ZS,afx];exact Z)) ?_;dsimp only [set_cons_zero,set_cons_succ,cons_append,nil_append,length_cons,length_nil,Nat.zero_add,Nat.reduceAdd])
    refine mT 10 (.rd 0 (.rd 1 (.rd 2 (.rd 3 (.rd 4 (.rd 5 (.rd 6 (.rd 7 (.rd 8 (.rd 9 .done)))))))))) ?_;refine U 200001000090000050000701000080000005000070 ?_;refine aJ (dP (i:=([]++s.tags++[v.n]).length) (hz:=by (simp only [ZD,List.length_cons,List.length_nil];omega))) ?_;refine Az ?_
    show cQ _ _ _ _ _ _
    refine aw (bg 1 (dL ((eT (s.tags.length+2) s.rows).set ([]++s.tags++[v.n]).length [])) ?_ ?_)
    exact (fun j hj=>nc (aa.nilS _ _) hj)
    refine U 4005 ?_
    rw [show dm v s=⟨([]++s.tags++[v.n]),(eT (s.tags.length+2) s.rows).set (s.tags.length+1) [],s.e⟩ by unfold dm;rw [jK,jP];unfold nS;rw [Zy (by simp [bO] at h86 ⊢;omega),jK];rfl]
    exact bG (.inr rfl) n ⟨([]++s.tags++[v.n]),(eT (s.tags.length+2) s.rows).set (s.tags.length+1) [],s.e⟩ 2 (br rfl) Z rfl rfl rfl (by exact Z) (by exact cO (by simp)) (by exact Z) (by simp) (fun _ _=>by rw [hLl];exact Z)
 refine U 5126 ?_;refine aaa (fun h97=>?_) fun h97=>?_
 ·refine U 5126 ?_;refine an (fun h114=>?_) fun h114=>?_
  ·refine U 6050000006 ?_
   refine aq (ak (JM v.b hvb) ?_)
   refine U 521675119009001 ?_;refine an (fun h116=>?_) fun h116=>?_
   ·refine U 100040116 ?_
    refine aw (bg 1 (ph ⟨s.tags,s.rows,(aR v.b).2⟩ 2 gr) ?_ ?_)
    exact sb
    refine U 5000300070005 ?_
    rw [show dm v s=⟨s.tags,s.rows,(aR v.b).2⟩ by unfold dm;rw [jK,jK,jK,jP,jP]]
    exact bG (.inl rfl) n ⟨s.tags,s.rows,(aR v.b).2⟩ 2 (br rfl) Z rfl rfl rfl (by exact Z) (by exact cO rfl) (by exact Z) (ZA _) (fun _ _=>by exact Z)
   refine U 1200810 ?_
   refine aq (aM 0 1 da fun p2=>?_)
   refine U 605000000 ?_
   refine aw (ay (l:=[]) rfl rfl rfl (ZL _) (fun j hj=>absurd hj (ZO j)) (cX rfl) rfl (fun j hj=>by simp only [anx];exact Z) underlying23 dV fR da jt rfl (by (simp;omega)) (fun j hj=>rfl) rfl rfl (fun p3=>?_))
   refine aA (freeze 3 rfl) ?_;refine aA (er 181 ([]++v.b) rfl rfl rfl rfl) ?_;refine aA (qV n s 0 2 rfl rfl rfl Z (cO rfl) Z (ZA _) (fun _ _=>Z)) ?_
   refine aw (aN 0 (zZ n s ([]++v.b) hs.ok) ?_)
   refine U 4005 ?_
   rw [show dm v s=kW ([]++v.b) s by unfold dm;rw [jK,jK,jK,jP,jK];rfl]
   exact bi (.inr rfl) _ [_] [0] jD rfl (br rfl) ⟨rfl,rfl⟩
  refine eA ?_;refine jq (pJ 5) ?_
  refine aq (yc (hB O O O) ?_)
  rintro _ _ ⟨⟨bb,rfl,hbb⟩,rfl⟩
  refine U 5216751119009009001 ?_;refine an (fun h123=>?_) fun h123=>?_
  ·refine U 100040116 ?_
   refine aw (bg 1 (ph ⟨s.tags,s.rows,(aF v).2.2⟩ 2 gr) ?_ ?_)
   exact sb
   refine U 5000300070005 ?_
   rw [show dm v s=⟨s.tags,s.rows,(aF v).2.2⟩ by unfold dm;rw [jK,jK,jK,jK,jP]]
   exact bG (.inl rfl) n ⟨s.tags,s.rows,(aF v).2.2⟩ 2 (br rfl) Z rfl rfl rfl (by exact Z) (by exact cO rfl) (by exact Z) (ZA _) (fun _ _=>by exact Z)
  refine U 810 ?_
  have hb0:bb=(aF v).2.1:=hbb O
  subst hb0
  refine jE (qV n s 0 2 rfl rfl rfl Z (cO rfl) Z (ZA _) (fun _ _=>Z)) ?_
  dsimp only [set_cons_zero,set_cons_succ,cons_append,nil_append,length_cons,length_nil,Nat.zero_add,Nat.reduceAdd]
  refine U 111200 ?_
  refine aw (aN 0 (ur n s (aF v).1 (aF v).2.1 hs.ok (PE v) (Lg hv)) ?_)
  refine U 4005 ?_
  rw [show dm v s=ml (aF v).1 (aF v).2.1 s by unfold dm;rw [jK,jK,jK,jK,jK]]
  exact bi (.inr rfl) _ [_] [0] jD rfl (br rfl) ⟨rfl,rfl⟩
 refine U 5216751350904016 ?_;refine an (fun h99=>?_) fun h99=>?_
 ·refine U 10004016 ?_
  refine aw (bg 1 (ph ⟨s.tags,s.rows,24⟩ 2 gr) ?_ ?_)
  exact sb
  refine U 5000300070005 ?_
  rw [show dm v s=⟨s.tags,s.rows,24⟩ by unfold dm;rw [jK,jK,jP];unfold nU;rw [jP]]
  exact bG (.inl rfl) n ⟨s.tags,s.rows,24⟩ 2 (br rfl) Z rfl rfl rfl (by exact Z) (by exact cO rfl) (by exact Z) (ZA _) (fun _ _=>by exact Z)
 refine U 810 ?_
 have hlt:=hs.lt O
 have hmem:(s.tags.getD (s.tags.length-1) 0) ∈ s.tags:=dZ 0 O
 have htg:=hs.tag _ hmem
 have hll:=R2 (s.tags.getD (s.tags.length-1) 0) (s.rows.getD s.tags.length [])
 refine U 9150904016751507001501004016 ?_;refine jq (dP (i:=(s.tags.length-1)) (hz:=by omega)) ?_;refine U 5260 ?_;refine aaa (fun h104=>?_) fun h104=>?_
 ·refine U 810 ?_
  first
   | refine jE (bj 5 (we (ll (s.tags.getD (s.tags.length-1) 0) (s.rows.getD s.tags.length []))) (by unfold ll;rw [Zz h104];exact Z)) ?_
   | refine jE (bj 5 (we (ll (s.tags.getD (s.tags.length-1) 0) (s.rows.getD s.tags.length []))) (by unfold ll;rw [Zy h104];exact Z)) ?_
  refine eA ?_
  refine aq (aM 0 1 da fun p2=>?_)
  refine U 2051316751 ?_;refine ar (α:=Nat×Option Nat) [6,8,133,134,135,136,137,138,139,140] (fun (i,g)=>[(6,.os 3 g 0 (((ll (s.tags.getD (s.tags.length-1) 0) (s.rows.getD s.tags.length [])).take i).flatten).length 1),(133,.c (.int .i64 (i:Nat)))]) (fun (i,g)=>[(some n,.blk 3 (ph s 2 gr)),(p1,.frz 5 (fl [.c (.int .i64 v.kind),.c (.int .i64 v.n),.c (.bool v.is),bc v.b,ap v.t])),(gr,.blk s.rows.length (dL s.rows)),(g,.blk (((ll (s.tags.getD (s.tags.length-1) 0) (s.rows.getD s.tags.length [])).take i).flatten).length (aV ((ll (s.tags.getD (s.tags.length-1) 0) (s.rows.getD s.tags.length [])).take i).flatten))]) (fun i=>i.1≤(ll (s.tags.getD (s.tags.length-1) 0) (s.rows.getD s.tags.length [])).length) (fun i=>(ll (s.tags.getD (s.tags.length-1) 0) (s.rows.getD s.tags.length [])).length-i.1) ((0,p2)) ?_ (fun _=>rfl) ?_ ?_ ?_
  exact ZL _
  exact .cons (cO rfl) (.cons Z .nil)
  exact .same (.same (.same (.blk rfl (fun j hj=>absurd hj (ZO j)) .nil)))
  ·rintro ⟨i,g⟩ (hi:i≤(ll (s.tags.getD (s.tags.length-1) 0) (s.rows.getD s.tags.length [])).length)
   refine U 7526 ?_;refine an (fun h108=>?_) fun h108=>?_
   ·refine U 51607006207810 ?_
    have hf1:=jI (ls:=(ll (s.tags.getD (s.tags.length-1) 0) (s.rows.getD s.tags.length []))) (i:=i) O
    have hf2:=qc (ll (s.tags.getD (s.tags.length-1) 0) (s.rows.getD s.tags.length [])) (i+1)
    have hf3:=gW ((ll (s.tags.getD (s.tags.length-1) 0) (s.rows.getD s.tags.length [])).take i)
    refine U 11200 ?_
    refine aw (ay rfl rfl rfl (ZA _) (fun _ _=>Z) (cX rfl) rfl (fun j hj=>by simp only [anx];exact Z) underlying23 dV fR da jt rfl O (fun j hj=>rfl) rfl rfl (fun p3=>?_))
    refine U 8519200840051 ?_
    refine am ((i+1,p3)) ?_ ?_ (h5:=?_) (h7:=?_)
    show i+1≤(ll (s.tags.getD (s.tags.length-1) 0) (s.rows.getD s.tags.length [])).length;omega
    show (ll (s.tags.getD (s.tags.length-1) 0) (s.rows.getD s.tags.length [])).length-(i+1)<(ll (s.tags.getD (s.tags.length-1) 0) (s.rows.getD s.tags.length [])).length-i;omega
    ·simp only [iX (show i<(ll (s.tags.getD (s.tags.length-1) 0) (s.rows.getD s.tags.length [])).length by omega)]
     exact .cons (cO rfl) (.cons (cI O) .nil)
    ·simp only [iX (show i<(ll (s.tags.getD (s.tags.length-1) 0) (s.rows.getD s.tags.length [])).length by omega)]
     exact .same (.same (.same (.same .nil)))
   refine U 84000200020006000 ?_
   have hiE:i=(ll (s.tags.getD (s.tags.length-1) 0) (s.rows.getD s.tags.length [])).length:=by omega
   subst hiE
   dsimp only
   rw [ZW]
   refine U 9150904016 ?_;refine jq (dP (i:=(s.tags.length-1)) (hz:=by omega)) ?_;refine U 915090401165160 ?_;refine jq (D7 (hl:=(bv _ _)) (hu:=(ci rfl (show _=(((s.tags.length-1):Nat):Int) by omega)))) ?_;refine U 9040 ?_
   refine aw (bg 1 (ph ⟨s.tags.take (s.tags.length-1),s.rows,s.e⟩ 2 gr) ?_ ?_)
   ·exact (fun j hj=>by rcases j with _|_|_|j<;>first|exact aa.rs (by rw [ZK];omega) (fun i q hi hq=>aa.of_eq (by rw [Nat.zero_add];exact HR hi))|exact Z)
   refine U 5 ?_;refine jE (freeze 3 rfl) ?_;refine jE (er 6 ((ll (s.tags.getD (s.tags.length-1) 0) (s.rows.getD s.tags.length [])).flatten) rfl rfl rfl rfl) ?_;refine jE (qV n ⟨s.tags.take (s.tags.length-1),s.rows,s.e⟩ 0 2 rfl rfl rfl Z (cO rfl) Z (ZA _) (fun _ _=>Z)) ?_
   dsimp only [set_cons_zero,set_cons_succ,cons_append,nil_append,length_cons,length_nil,Nat.zero_add,Nat.reduceAdd]
   refine U 111200 ?_
   refine aw (aN 0 (ur n ⟨s.tags.take (s.tags.length-1),s.rows,s.e⟩ (s.tags.getD (s.tags.length-1) 0) ((ll (s.tags.getD (s.tags.length-1) 0) (s.rows.getD s.tags.length [])).flatten) (Ad hs) htg (by rw [gW];omega)) ?_)
   refine U 4005 ?_
   rw [show dm v s=ml (s.tags.getD (s.tags.length-1) 0) ((ll (s.tags.getD (s.tags.length-1) 0) (s.rows.getD s.tags.length [])).flatten) ⟨s.tags.take (s.tags.length-1),s.rows,s.e⟩ by unfold dm;rw [jK,jK,jP];unfold nU;rw [jK,DT]]
   exact bi (.inr rfl) _ [_] [0] jD rfl (br rfl) ⟨rfl,rfl⟩
 refine U 1200 ?_
 refine aq (ak (BB (s.rows.getD s.tags.length []) hkk) ?_)
 refine U 851 ?_
 first
  | refine jE (bj 5 (we (ll (s.tags.getD (s.tags.length-1) 0) (s.rows.getD s.tags.length []))) (by unfold ll;rw [Zz h104];exact Z)) ?_
  | refine jE (bj 5 (we (ll (s.tags.getD (s.tags.length-1) 0) (s.rows.getD s.tags.length []))) (by unfold ll;rw [Zy h104];exact Z)) ?_
 refine eA ?_
 refine aq (aM 0 1 da fun p2=>?_)
 refine U 2051316751 ?_;refine ar (α:=Nat×Option Nat) [6,8,133,134,135,136,137,138,139,140] (fun (i,g)=>[(6,.os 3 g 0 (((ll (s.tags.getD (s.tags.length-1) 0) (s.rows.getD s.tags.length [])).take i).flatten).length 1),(133,.c (.int .i64 (i:Nat)))]) (fun (i,g)=>[(some n,.blk 3 (ph s 2 gr)),(p1,.frz 5 (fl [.c (.int .i64 v.kind),.c (.int .i64 v.n),.c (.bool v.is),bc v.b,ap v.t])),(gr,.blk s.rows.length (dL s.rows)),(g,.blk (((ll (s.tags.getD (s.tags.length-1) 0) (s.rows.getD s.tags.length [])).take i).flatten).length (aV ((ll (s.tags.getD (s.tags.length-1) 0) (s.rows.getD s.tags.length [])).take i).flatten))]) (fun i=>i.1≤(ll (s.tags.getD (s.tags.length-1) 0) (s.rows.getD s.tags.length [])).length) (fun i=>(ll (s.tags.getD (s.tags.length-1) 0) (s.rows.getD s.tags.length [])).length-i.1) ((0,p2)) ?_ (fun _=>rfl) ?_ ?_ ?_
 exact ZL _
 exact .cons (cO rfl) (.cons Z .nil)
 exact .same (.same (.same (.blk rfl (fun j hj=>absurd hj (ZO j)) .nil)))
 ·rintro ⟨i,g⟩ (hi:i≤(ll (s.tags.getD (s.tags.length-1) 0) (s.rows.getD s.tags.length [])).length)
  refine U 7526 ?_;refine an (fun h108=>?_) fun h108=>?_
  ·refine U 51607006207810 ?_
   have hf1:=jI (ls:=(ll (s.tags.getD (s.tags.length-1) 0) (s.rows.getD s.tags.length []))) (i:=i) O
   have hf2:=qc (ll (s.tags.getD (s.tags.length-1) 0) (s.rows.getD s.tags.length [])) (i+1)
   have hf3:=gW ((ll (s.tags.getD (s.tags.length-1) 0) (s.rows.getD s.tags.length [])).take i)
   refine U 11200 ?_
   refine aw (ay rfl rfl rfl (ZA _) (fun _ _=>Z) (cX rfl) rfl (fun j hj=>by simp only [anx];exact Z) underlying23 dV fR da jt rfl O (fun j hj=>rfl) rfl rfl (fun p3=>?_))
   refine U 8519200840051 ?_
   refine am ((i+1,p3)) ?_ ?_ (h5:=?_) (h7:=?_)
   show i+1≤(ll (s.tags.getD (s.tags.length-1) 0) (s.rows.getD s.tags.length [])).length;omega
   show (ll (s.tags.getD (s.tags.length-1) 0) (s.rows.getD s.tags.length [])).length-(i+1)<(ll (s.tags.getD (s.tags.length-1) 0) (s.rows.getD s.tags.length [])).length-i;omega
   ·simp only [iX (show i<(ll (s.tags.getD (s.tags.length-1) 0) (s.rows.getD s.tags.length [])).length by omega)]
    exact .cons (cO rfl) (.cons (cI O) .nil)
   ·simp only [iX (show i<(ll (s.tags.getD (s.tags.length-1) 0) (s.rows.getD s.tags.length [])).length by omega)]
    exact .same (.same (.same (.same .nil)))
  refine U 84000200020006000 ?_
  have hiE:i=(ll (s.tags.getD (s.tags.length-1) 0) (s.rows.getD s.tags.length [])).length:=by omega
  subst hiE
  dsimp only
  rw [ZW]
  refine U 9150904016 ?_;refine jq (dP (i:=(s.tags.length-1)) (hz:=by omega)) ?_;refine U 915090401165160 ?_;refine jq (D7 (hl:=(bv _ _)) (hu:=(ci rfl (show _=(((s.tags.length-1):Nat):Int) by omega)))) ?_;refine U 9040 ?_
  refine aw (bg 1 (ph ⟨s.tags.take (s.tags.length-1),s.rows,s.e⟩ 2 gr) ?_ ?_)
  ·exact (fun j hj=>by rcases j with _|_|_|j<;>first|exact aa.rs (by rw [ZK];omega) (fun i q hi hq=>aa.of_eq (by rw [Nat.zero_add];exact HR hi))|exact Z)
  refine U 5 ?_;refine jE (freeze 3 rfl) ?_;refine jE (er 6 ((ll (s.tags.getD (s.tags.length-1) 0) (s.rows.getD s.tags.length [])).flatten) rfl rfl rfl rfl) ?_;refine jE (qV n ⟨s.tags.take (s.tags.length-1),s.rows,s.e⟩ 0 2 rfl rfl rfl Z (cO rfl) Z (ZA _) (fun _ _=>Z)) ?_
  dsimp only [set_cons_zero,set_cons_succ,cons_append,nil_append,length_cons,length_nil,Nat.zero_add,Nat.reduceAdd]
  refine U 111200 ?_
  refine aw (aN 0 (ur n ⟨s.tags.take (s.tags.length-1),s.rows,s.e⟩ (s.tags.getD (s.tags.length-1) 0) ((ll (s.tags.getD (s.tags.length-1) 0) (s.rows.getD s.tags.length [])).flatten) (Ad hs) htg (by rw [gW];omega)) ?_)
  refine U 4005 ?_
  rw [show dm v s=ml (s.tags.getD (s.tags.length-1) 0) ((ll (s.tags.getD (s.tags.length-1) 0) (s.rows.getD s.tags.length [])).flatten) ⟨s.tags.take (s.tags.length-1),s.rows,s.e⟩ by unfold dm;rw [jK,jK,jP];unfold nU;rw [jK,DT]]
  exact bi (.inr rfl) _ [_] [0] jD rfl (br rfl) ⟨rfl,rfl⟩
end
section
open Go.RowKit Cal
structure ke (v:VV):Prop where
 n:-9223372036854775808≤v.n∧v.n≤9223372036854775807
 b:v.b.length≤300
 t:v.t.length≤300
theorem ke.ok {v:VV} (h:ke v):Tl v:=⟨h.n,by have:=h.b;omega,by have:=h.t;omega⟩
def CG (fr:List (Int×Zx)):Nat:=(fr.map fun x=>cw x.2+6).sum
def yW (s:W8):Nat:=s.d.length+CG s.fr
theorem pN (x:Int×Zx) (fr:List (Int×Zx)):CG (x::fr)=cw x.2+6+CG fr:=by simp [CG]
theorem IJ (l:Zx) (b:I):cw (l++[b])=cw l+b.length:=by rw [sH];simp [cw]
theorem eG (tag:Int) (b:I):(bB tag b).length≤b.length+6:=by
 unfold bB
 have:=qB b.length
 simp only [List.length_cons,ZD]
 omega
theorem LF (b:I) (s:W8):yW (cV b s)=yW s+b.length:=by
 have ⟨fr,d,k⟩:=s
 cases fr with
 | nil=>simp [yW,cV,CG]
 | cons x fr =>
  show d.length+CG ((x.1,x.2++[b])::fr)=d.length+CG (x::fr)+_
  rw [pN,pN]
  show d.length+(cw (x.2++[b])+6+CG fr)=_
  rw [IJ]
  omega
theorem Bh (e:Nat) (s:W8):yW (bX e s)=yW s:=by unfold bX;split<;>rfl
theorem Fi (tag:Int) (b:I) (e:Nat) (s:W8):yW (fH tag b e s)≤yW s+b.length+6:=by
 unfold fH
 split
 ·rw [Bh];omega
 ·split
  ·show s.d.length+CG s.fr≤_;unfold yW;omega
  ·rw [LF];have:=eG tag b;omega
theorem vR {v:VV} (h:ke v):(aF v).2.1.length≤300:=by
 have h1:=h.b
 have h2:=h.t
 have h3:=(sW v.n h.n.1 h.n.2).2
 have h4:=wx v.t
 unfold aF
 split
 show (jz v.n).length≤_;omega
 ·split
  show (jz v.n).length≤_;omega
  ·split
   ·show [if v.is then (255:UInt8) else 0].length≤_;simp
   ·split
    exact h1
    ·split
     ·show (if az v.t v.n=0 then v.t else []).length≤_;split<;>first|omega|simp
     ·split
      show (iK v.t).length≤_;omega
      ·split
       ·show (if yV v.n then eJ (DG v.n) else []).length≤_
        split
        exact Z7 (aqx (show (eJ (DG v.n)).length=15 from rfl)) jD
        ·simp
       ·show (k8 v.n).length≤_
        unfold k8
        split
        ·simp
        ·rw [nv O]
         have:=(tX (m:=v.n.toNat) O).2
         omega
theorem Wy {v:VV} (h:ke v) (s:W8):yW (mC v s)≤yW s+400:=by
 have hb:=h.b
 unfold mC
 split
 ·unfold cW
  split
  omega
  ·split
   ·show s.d.length+CG s.fr≤_;unfold yW;omega
   ·split
    ·show s.d.length+CG s.fr≤_;unfold yW;omega
    ·show s.d.length+CG _≤_
     rw [pN]
     unfold yW
     simp [cw];omega
 ·split
  ·unfold dS
   split
   omega
   ·have ⟨fr,d,k⟩:=s
    cases fr with
    | nil=>show d.length+CG []≤d.length+CG []+_;omega
    | cons x fr =>
     have h1:=Fi x.1 (lX x) 0 ⟨fr,d,k⟩
     rw [A9] at h1
     refine Z7 h1 ?_
     show d.length+CG fr+_+_≤d.length+CG (x::fr)+_
     rw [pN]
     omega
  ·split
   ·unfold uz
    split
    ·rw [LF];omega
    ·rw [Bh];omega
   ·have h1:=Fi (aF v).1 (aF v).2.1 (aF v).2.2 s
    have h2:=vR h
    omega
theorem Hu {m:Nat} {r:List (Zx)} {x:Zx} (h:x ∈ eT m r):x ∈ r∨x=[]:=by
 unfold eT at h
 rcases bcx.1 h with h|h
 exact .inl h
 exact .inr (List.eq_of_mem_replicate h)
theorem GP (r:List (Zx)) (j:Nat):r.getD j [] ∈ r∨r.getD j []=[]:=by
 rw [ZB]
 cases e:r[j]? with
 | none=>exact .inr rfl
 | some x=>exact .inl (azx e)
def Ip (r r':R8):Prop:=(r'.rows.length≤max r.rows.length (r'.tags.length+1))∧∀ x ∈ r'.rows,x ∈ r.rows∨x=[]∨∃ y b,(y ∈ r.rows∨y=[])∧x=y++[b]∧x=r'.rows.getD r'.tags.length []
theorem iL {r r':R8} (h:r'.rows=r.rows):Ip r r':=⟨by rw [h];omega,fun x hx=>.inl (h ▸ hx)⟩
theorem AJ (b:I) (r:R8):Ip r (kW b r):=by
 have hp:r.tags.length<(eT (r.tags.length+1) r.rows).length:=by rw [nX];omega
 refine ⟨?_,fun x hx=>?_⟩
 ·show (List.set _ _ _).length≤max _ (r.tags.length+1)
  rw [aPx,nX]
  omega
 ·rcases cBx hx with h|h
  ·rcases Hu h with h|h
   exact .inl h
   exact .inr (.inl h)
  ·refine .inr (.inr ⟨_,b,?_,h,?_⟩)
   ·rw [gB];exact GP _ _
   ·show x=List.getD (List.set _ _ _) r.tags.length []
    rw [qi _ _ _ _ hp,Zz rfl]
    exact h
theorem AI (t:Int) (b:I) (r:R8):Ip r (ml t b r):=by
 unfold ml
 split
 exact iL rfl
 exact AJ _ r
theorem Ei (v:VV) (r:R8):Ip r (dm v r):=by
 unfold dm
 split
 exact iL rfl
 ·split
  ·unfold nS
   split
   exact iL rfl
   ·split
    exact iL rfl
    ·refine ⟨?_,fun x hx=>?_⟩
     ·show (List.set _ _ _).length≤max _ ((r.tags++[v.n]).length+1)
      rw [aPx,nX,ZD,aEx]
      omega
     ·rcases cBx hx with h|h
      ·rcases Hu h with h|h
       exact .inl h
       exact .inr (.inl h)
      exact .inr (.inl h)
  ·split
   ·unfold nU
    split
    exact iL rfl
    exact AI _ _ ⟨_,r.rows,r.e⟩
   ·split
    ·split
     exact iL rfl
     exact AJ _ r
    ·split
     exact iL rfl
     exact AI _ _ r
theorem H8 {fr:List (Int×Zx)} {x:Int×Zx} (h:x ∈ fr):cw x.2≤CG fr:=by
 induction fr with
 | nil=>cases h
 | cons y fr ih =>
  rw [pN]
  rcases Z9.1 h with rfl|h
  omega
  ·have:=ih h;omega
theorem yO {r:R8} {s:W8} (h:mJ r s):cw (r.rows.getD r.tags.length [])≤yW s:=by
 have hl:r.tags.length=s.fr.length:=by rw [h.tags];simp
 have ⟨fr,d,k⟩:=s
 cases fr with
 | nil =>
  rw [hl]
  show cw (r.rows.getD 0 [])≤_
  rw [← gW,h.row0]
  unfold yW
  omega
 | cons x fr =>
  have hr:=h.row fr.length (by simp)
  rw [hl]
  show cw (r.rows.getD (fr.length+1) [])≤_
  rw [hr]
  have e:((x::fr).map Prod.snd).reverse.getD fr.length []=x.2:=by simp
  show cw (((x::fr).map Prod.snd).reverse.getD fr.length [])≤_
  rw [e]
  have:=H8 (fr:=x::fr) (x:=x) ZU
  unfold yW
  show _≤d.length+CG (x::fr)
  omega
structure gg (i:Nat) (r:R8) (s:W8):Prop where
 same:mJ r s
 w:yW s≤400 * i
 rows:∀ x ∈ r.rows,x.length≤i∧cw x≤400 * i
 n:r.rows.length≤18
theorem Oq:gg 0 ⟨[],[],0⟩ ⟨[],[],0⟩:=⟨IX,by decide,fun _ h=>(by cases h),by decide⟩
theorem jl {i:Nat} {r:R8} {s:W8} (h:gg i r s) {v:VV} (hv:ke v):gg (i+1) (dm v r) (mC v s):=by
 have hs:=Hd h.same v
 have hw:=Wy hv s
 have hg:=Ei v r
 have h0:=h.w
 have hl:(dm v r).tags.length≤16:=by rw [hs.tags];simpa using hs.lim
 refine ⟨hs,by omega,fun x hx=>?_,?_⟩
 ·rcases hg.2 x hx with h1|h1|⟨y,b,h1,h2,h3⟩
  ·have:=h.rows x h1;omega
  ·subst h1;simp [cw]
  ·have ha:=yO hs
   rw [← h3] at ha
   refine ⟨?_,by omega⟩
   rw [h2,ZD,aEx]
   rcases h1 with h1|h1
   ·have:=h.rows y h1;omega
   ·subst h1;simp
 ·have:=hg.1
  have:=h.n
  omega
theorem Ef {i:Nat} {r:R8} {s:W8} (h:gg i r s) (e:Nat):gg i ⟨r.tags,r.rows,if r.e=0 then e else r.e⟩ (bX e s):=by
 have hs:=h.same
 refine ⟨?_,by rw [Bh];exact h.w,h.rows,h.n⟩
 unfold bX
 rw [hs.e]
 split
 exact ⟨hs.tags,rfl,hs.row0,hs.row,hs.len,hs.known,hs.lim⟩
 exact ⟨hs.tags,rfl,hs.row0,hs.row,hs.len,hs.known,hs.lim⟩
theorem gD {i:Nat} {r:R8} {s:W8} (h:gg i r s) (hi:i≤1000):vV s:=by
 have hw:=h.w
 refine ⟨h.same.lim,fun x hx=>?_,by unfold yW at hw;omega⟩
 have ⟨j,hj⟩:=bVx.1 hx
 have hjl:=(ZC.1 hj).1
 have hr:=h.same.row (s.fr.length-1-j) O
 have e:(s.fr.map Prod.snd).reverse.getD (s.fr.length-1-j) []=x.2:=by
  rw [ZB,cfx (by simp;omega)]
  simp only [axx,aBx]
  rw [show s.fr.length-1-(s.fr.length-1-j)=j by omega,hj]
  rfl
 rw [e] at hr
 have hs:=H8 hx
 unfold yW at hw
 refine ⟨?_,by omega⟩
 rcases GP r.rows (s.fr.length-1-j+1) with h1|h1
 ·have:=(h.rows _ h1).1
  rw [hr] at this
  omega
 ·rw [hr] at h1
  rw [h1];simp
theorem gE {i:Nat} {r:R8} {s:W8} (h:gg i r s) (hi:i≤1000):CB r:=by
 have hl:r.tags.length=s.fr.length:=by rw [h.same.tags];simp
 have hlim:=h.same.lim
 have hn:=h.n
 refine ⟨⟨by omega,by omega,fun x hx=>by have:=h.rows x hx;omega⟩,fun j=>?_,fun x hx=>?_,h.same.len⟩
 ·rcases GP r.rows j with h1|h1
  ·have:=h.rows _ h1;omega
  ·rw [h1];simp [cw]
 ·rw [h.same.tags] at hx
  obtain ⟨y,hy,rfl⟩:=bBx.1 (List.mem_reverse.1 hx)
  exact pI (og (h.same.known y hy))
end
def Dx (l:Zx) (k:Nat) (z:Nat×Option Nat):List (Option Nat×aW):=[(some z.1,.blk 2 (fl [.os 1 z.2 0 l.length 1,.err k])),(z.2,.blk l.length (nq l))]
def eo (n:Nat) (l:Zx) (k:Nat):Option Nat×aW:=lK n (fun z:Nat×Option Nat=>z.1) (Dx l k)
section
variable {P:Program} {G:Gh} {s:AS} {c:Code} {R:Exit→AS→Prop} {n k:Nat} {l:Zx}
theorem ET (i:Nat) (hi:s.H[i]?=some (eo n l k)) (h:∀ gl,aY P G c ⟨s.env,s.b,s.H.set i (some n,.blk 2 (fl [.os s.H.length gl 0 l.length 1,.err k]))++[(gl,.blk l.length (nq l))]⟩ R):aY P G c s R:=by
 have hlt:=(ZC.1 hi).1
 refine kM i hi fun z hz=>?_
 have ⟨n',gl⟩:=z
 obtain rfl:n'=n:=hz
 refine jE (cE i 2 (fl [.os s.H.length gl 0 l.length 1,.err k]) (n:=2) (g:=some n') (f:=fl [.os 1 gl 0 l.length 1,.err k]) ?_ (ZA _) fun j hj=>?_) ?_
 ·show (s.H.set i _++_)[i]?=_
  rw [ZF (by simpa using hlt)]
  simp [hlt]
 ·rcases j with _|_|j
  exact cO rfl
  exact Z
  omega
 ·have e:(s.H.set i (some n',aW.blk 2 (fl [.os 1 gl 0 l.length 1,.err k]))++[(gl,aW.blk l.length (nq l))]).set i (some n',.blk 2 (fl [.os s.H.length gl 0 l.length 1,.err k]))=s.H.set i (some n',.blk 2 (fl [.os s.H.length gl 0 l.length 1,.err k]))++[(gl,.blk l.length (nq l))]:=by
   rw [b2x _ _ (by simpa using hlt),bjx]
  have:=h gl
  rw [← e] at this
  exact this
theorem SZ (n k:Nat) (l:Zx) (i j:Nat) {gl:Option Nat} {N:Nat} {f F:Nat→CV} (hi:s.H[i]?=some (some n,.blk 2 f)) (hj:s.H[j]?=some (gl,.blk N F)) (hij:Nat.beq i j=false) (h0:aa (f 0) (.os 1 gl 0 l.length 1)) (h1:aa (f 1) (.err k)) (hN:l.length≤N) (hF:∀ a,a<l.length→aa (F a) (nq l a)) :
  cJ G s ⟨s.env,s.b,(s.H.set i (eo n l k)).set j (none,.dead)⟩:=by
 have hij:=bMx hij
 have hil:=(ZC.1 hi).1
 have hjl:=(ZC.1 hj).1
 refine cJ.hrel fun h=>?_
 have h2:=h.weak (F:=fl [.os 1 gl 0 l.length 1,.err k]) hi (ZA _) fun a ha=>by
  rcases a with _|_|a
  exact h0
  exact h1
  omega
 have h3:=h2.weak (i:=j) (F:=nq l) (by rw [ZQ hij];exact hj) hN hF
 have h4:=h3.closeN (gd:=fun z:Nat×Option Nat=>z.1) (E:=Dx l k) (n,gl) i [j] (by simp [hij]) (by simp [hil,hjl]) (by
  simp only [il,Z6,bqx,ZB]
  rw [ZQ (Ne.symm hij)]
  simp [hil,hjl,Dx])
 have e:kX (((s.H.set i (some n,aW.blk 2 (fl [CV.os 1 gl 0 l.length 1,CV.err k]))).set j (gl,aW.blk l.length (nq l))).set i (lK n (fun z:Nat×Option Nat=>z.1) (Dx l k))) [j]=(s.H.set i (eo n l k)).set j (none,.dead):=by
  show ((((s.H.set i _).set j _).set i _).set j _)=_
  rw [cjx _ _ (Ne.symm hij),bjx,bjx]
  rfl
 rw [← e]
 exact h4
theorem bu {env:List (Nat×CV)} {b0:Nat→CV} {H:List (Option Nat×aW)} (i:Nat) (hi:H[i]?=some (eo n l k)) (h:∀ gl,aY P G c ⟨env,b0,H.set i (some n,.blk 2 (fl [.os H.length gl 0 l.length 1,.err k]))++[(gl,.blk l.length (nq l))]⟩ R):aY P G c ⟨env,b0,H⟩ R:=ET i hi h
theorem cG {env:List (Nat×CV)} {b0:Nat→CV} {H:List (Option Nat×aW)} (n k:Nat) (l:Zx) (i j:Nat) {gl:Option Nat} {N:Nat} {f F:Nat→CV} (hi:H[i]?=some (some n,.blk 2 f)) (hj:H[j]?=some (gl,.blk N F)) (hij:Nat.beq i j=false) (h0:aa (f 0) (.os 1 gl 0 l.length 1)) (h1:aa (f 1) (.err k)) (hN:l.length≤N) (hF:∀ a,a<l.length→aa (F a) (nq l a)) :
  cJ G ⟨env,b0,H⟩ ⟨env,b0,(H.set i (eo n l k)).set j (none,.dead)⟩:=SZ n k l i j hi hj hij h0 h1 hN hF
end
def cc (l:Zx):I:=l.getD (l.length-1) []
def dq (l:Zx) (k:Nat):Bool:=decide (k=0) && decide (0<(cc l).length)
theorem xL (n:Nat) (l:Zx) (k:Nat) (hl:0<l.length∧l.length≤1000000):AC gs prog 115 [eo n l k] [.op 0 (some n) 0] (fun r H'=>r=bc (cc l)∧H'=[eo n l k]):=by
 refine ae 15 func115 fun _ _ _ _=>?_;refine bu 0 rfl fun gl=>?_;refine U 7516 ?_
 skip
 refine dQ (.rd 0 (.rd 1 (.rd 2 (.rd 3 (.rd 4 (.rd 5 (.rd 6 (.rd 7 (.rd 8 (.rd 9 (.rd 10 (.rd 11 (.rd 12 .done))))))))))))) ?_;refine U 3000020000100009000005000070100009000005000070 ?_;refine aJ (dP (i:=(l.length-1)) (hz:=by omega)) ?_;refine U 70008807010000 ?_
 exact bK (gd:=fun z:Nat×Option Nat=>z.1) (E:=Dx l k) (.inl rfl) _ (n,gl) [0,1] jD rfl (aK rfl (ai rfl)) ⟨rfl,rfl⟩
theorem va (n:Nat) (l:Zx) (k e:Nat):AC gs prog 121 [eo n l k] [.op 0 (some n) 0,.err e] (fun r H'=>r=.c (.tuple #[])∧H'=[eo n l (if k=0 then e else k)]):=by
 refine ae 13 func121 fun _ _ _ _=>?_;refine bu 0 rfl fun gl=>?_;refine U 5500000501004016 ?_;refine aaa (fun h161=>?_) fun h161=>?_
 ·refine U 10 ?_
  rw [jK]
  exact bK (gd:=fun z:Nat×Option Nat=>z.1) (E:=Dx l k) (.inr rfl) _ (n,gl) [0,1] jD rfl (br rfl) ⟨rfl,rfl⟩
 refine U 1004011200 ?_
 refine aw (bg 1 (fl [.os 1 gl 0 l.length 1,.err e]) ?_ ?_)
 exact sb
 refine U 5 ?_
 rw [jP]
 exact bK (gd:=fun z:Nat×Option Nat=>z.1) (E:=Dx l e) (.inr rfl) _ (n,gl) [0,1] jD rfl (br rfl) ⟨rfl,rfl⟩
theorem Pa (n:Nat) (l:Zx) (k:Nat):AC gs prog 119 [eo n l k] [.op 0 (some n) 0] (fun r H'=>r=.err k∧H'=[eo n l k]):=by
 refine ae 7 func119 fun _ _ _ _=>?_;refine bu 0 rfl fun gl=>?_;refine U 516 ?_
 skip
 refine U 700051501004016 ?_
 exact bK (gd:=fun z:Nat×Option Nat=>z.1) (E:=Dx l k) (.inl rfl) _ (n,gl) [0,1] jD rfl (aK rfl (ai rfl)) ⟨rfl,rfl⟩
theorem gU {l:Zx} {k:Nat} (h:dq l k=true):k=0∧0<(cc l).length:=by simpa [dq] using h
theorem HD (n:Nat) (l:Zx) (k:Nat) (hl:0<l.length∧l.length≤1000000):AC gs prog 128 [eo n l k] [.op 0 (some n) 0] (fun r H'=>r=.c (.bool (dq l k))∧H'=[eo n l k]):=by
 refine ae 14 func128 fun _ _ _ _=>?_;refine bu 0 rfl fun gl=>?_;refine U 516 ?_
 skip
 refine U 501004016 ?_;refine aA (cG n k l 0 1 rfl rfl rfl Z Z (ZA _) (fun _ _=>Z)) ?_;refine U 1500000 ?_;refine aH 8 (fun g173=>?_) fun g173=>?_
 ·refine U 1 ?_
  refine aw (aN 0 (xL n l k hl) ?_)
  refine U 70005110000000023 ?_
  exact bR (.inl rfl) rfl (aK rfl (ai rfl)) (cB (by unfold dq;(simp [g173];done)))
 refine U 7000515004444 ?_
 exact bR (.inl rfl) rfl (aK rfl (ai rfl)) (cB (by unfold dq;(simp [g173];done)))
section
variable {gs:List Nat} [ib gs]
structure NR where
 l:Zx
 k:Nat
 tag:Nat
 body:I
 raw:I
 is:Bool
def aj (tag:Int) (l:Zx) (k:Nat):NR :=
 if k≠0 then ⟨l,k,0,[],[],false⟩ else
 if (ah (cc l)).e≠0 then ⟨l,(ah (cc l)).e,0,[],[],false⟩ else
 if tag≠0∧((ah (cc l)).tag:Int)≠tag then ⟨l,5,0,[],[],false⟩ else
 ⟨l.set (l.length-1) (ah (cc l)).rest,0,(ah (cc l)).tag,(ah (cc l)).body,(cc l).take ((cc l).length-(ah (cc l)).rest.length),true⟩
theorem N4 {l:Zx} {i:Nat} {x:I} {j:Nat} (hj:j<l.length):aa (fX (nq l) i [bc x] j) (nq (l.set i x) j):=by
 refine aa.of_eq ?_
 rw [db]
 simp only [nq,aEx,ZB,cHx]
 by_cases h:i=j
 ·subst h
  rw [jP,Zz rfl,Zz hj,bAx]
  rfl
 ·rw [jK,Zy h]
theorem kD (n:Nat) (l:Zx) (k:Nat) (tag:Int) (hl:0<l.length∧l.length≤1000000) (hb:(cc l).length≤10000000):AC gs prog 116 [eo n l k] [.op 0 (some n) 0,.c (.int .i64 tag)]
  (fun r H'=>r=.tup 3 (fl [X1 (aj tag l k).tag (aj tag l k).body,bc (aj tag l k).raw,.c (.bool (aj tag l k).is)])∧H'=[eo n (aj tag l k).l (aj tag l k).k]):=by
 have hnb:=gT (cc l)
 refine ae 67 func116 fun _ _ _ _=>?_;refine eA ?_
 refine aq (dh (n:=2) gH rfl fun p1=>?_)
 refine U 7511 ?_;refine bu 0 rfl fun gl=>?_;refine U 5500000501004016 ?_;refine an (fun h185=>?_) fun h185=>?_
 ·refine jE (cG n k l 0 2 rfl rfl rfl (cO rfl) Z (ZA _) (fun _ _=>Z)) ?_
  dsimp only [set_cons_zero,set_cons_succ,cons_append,nil_append,length_cons,length_nil,Nat.zero_add,Nat.reduceAdd]
  refine eA ?_;refine jq (au (n:=2) rfl gH ro rfl rfl) ?_
  refine aw (bn 2 ?_)
  refine U 30007000511 ?_
  have hN:aj tag l k=⟨l,k,0,[],[],false⟩:=by unfold aj;rw [jP]
  rw [hN]
  refine bR (.inl rfl) rfl (eP rfl (f5 2) bo bo) ?_
  exact aa.tup3 (aa.agg2 Z cN) cN Z
 refine U 810 ?_
 obtain rfl:k=0:=by omega
 refine jE (cG n 0 l 0 2 rfl rfl rfl (cO rfl) Z (ZA _) (fun _ _=>Z)) ?_
 dsimp only [set_cons_zero,set_cons_succ,cons_append,nil_append,length_cons,length_nil,Nat.zero_add,Nat.reduceAdd]
 refine U 16 ?_
 refine aw (aN 0 (xL n l 0 hl) ?_)
 refine aq (ak (BU (cc l) hb) ?_)
 refine U 9009009001 ?_
 refine aq (dh (n:=2) gH rfl fun p3=>?_)
 refine aw (bn 2 ?_)
 refine U 5150000016207511 ?_;refine an (fun h190=>?_) fun h190=>?_
 ·refine bu 0 rfl fun gl2=>?_;refine U 1004011200 ?_
  refine aw (bg 1 (fl [.os 4 gl2 0 l.length 1,.err (ah (cc l)).e]) ?_ ?_)
  exact sb
  refine U 84005 ?_
  first
   | refine jE (cG n (ah (cc l)).e l 0 4 rfl rfl rfl (cO rfl) Z (ZA _) (fun _ _=>Z)) ?_
   | refine jE (cG n 5 l 0 4 rfl rfl rfl (cO rfl) Z (ZA _) (fun _ _=>Z)) ?_
  refine eA ?_;refine jq (au (n:=2) rfl gH ro rfl rfl) ?_
  refine aw (bn 2 ?_)
  refine U 7000511 ?_
  first
   |(have hN:aj tag l 0=⟨l,(ah (cc l)).e,0,[],[],false⟩:=by unfold aj;rw [jK,jP])
   |(have hN:aj tag l 0=⟨l,5,0,[],[],false⟩:=by unfold aj;rw [jK,jK,jP])
  rw [hN]
  refine bR (.inl rfl) rfl (eP rfl (f5 2) bo bo) ?_
  exact aa.tup3 (aa.agg2 Z cN) cN Z
 refine U 1216 ?_;refine aH 56 (fun g192=>?_) fun g192=>?_
 rotate_left
 ·refine U 16300515004444 ?_
  refine aw (aN 0 (xL n l 0 hl) ?_)
  refine U 751 ?_;refine bu 0 rfl fun gl2=>?_;refine mT 12 (.rd 0 (.rd 1 (.rd 2 (.rd 3 (.rd 4 (.rd 5 (.rd 6 (.rd 7 (.rd 8 (.rd 9 (.rd 10 (.rd 11 .done)))))))))))) ?_;refine U 703000020000100009000005000070100009000005000070 ?_;refine aJ (dP (i:=(l.length-1)) (hz:=by omega)) ?_;refine Az ?_
  show cQ _ _ _ _ _ _
  refine aw (bg 1 (nq (l.set (l.length-1) (ah (cc l)).rest)) ?_ ?_)
  exact (fun j hj=>N4 hj)
  refine U 785 ?_;refine jE (cG n 0 (l.set (l.length-1) (ah (cc l)).rest) 0 4 rfl rfl rfl (cO (by simp)) Z (by simp) (fun _ _=>Z)) ?_
  dsimp only [set_cons_zero,set_cons_succ,cons_append,nil_append,length_cons,length_nil,Nat.zero_add,Nat.reduceAdd]
  refine jE (freeze 3 rfl) ?_;refine jE (lH 7 (m:=2) rfl rfl jD) ?_;refine lQ (.rd 0 (.rd 1 (.rd 2 (.rd 3 (.rd 4 (.rd 5 (.rd 6 (.rd 7 (.one 8 (.rd 9 (.rd 10 .done))))))))))) ?_;refine jy (pJ 2) ?_;refine U 400000400000 ?_;refine jy Wb ?_;refine jy Lt ?_;refine jy Wb ?_;refine jy P3 ?_;refine jy D5 ?_
  refine lP (bn 2 ?_)
  refine U 3000500070008700000400000400000 ?_
  have hN:aj tag l 0=⟨l.set (l.length-1) (ah (cc l)).rest,0,(ah (cc l)).tag,(ah (cc l)).body,(cc l).take ((cc l).length-(ah (cc l)).rest.length),true⟩:=by unfold aj;rw [jK,jK,jK]
  rw [hN]
  refine bR (.inl rfl) rfl (eP rfl (f5 2) bo bo) ?_
  exact aa.tup3 (aa.agg2 Z Z) (aa.bs (by congr 1;omega)) Z
 refine U 51100000000215090 ?_;refine an (fun h192=>?_) fun h192=>?_
 ·refine bu 0 rfl fun gl2=>?_;refine U 1200 ?_;refine jq (cK 4) ?_;refine U 10040 ?_
  refine aw (bg 1 (fl [.os 4 gl2 0 l.length 1,.err 5]) ?_ ?_)
  exact sb
  refine U 84005 ?_
  first
   | refine jE (cG n (ah (cc l)).e l 0 4 rfl rfl rfl (cO rfl) Z (ZA _) (fun _ _=>Z)) ?_
   | refine jE (cG n 5 l 0 4 rfl rfl rfl (cO rfl) Z (ZA _) (fun _ _=>Z)) ?_
  refine eA ?_;refine jq (au (n:=2) rfl gH ro rfl rfl) ?_
  refine aw (bn 2 ?_)
  refine U 7000511 ?_
  first
   |(have hN:aj tag l 0=⟨l,(ah (cc l)).e,0,[],[],false⟩:=by unfold aj;rw [jK,jP])
   |(have hN:aj tag l 0=⟨l,5,0,[],[],false⟩:=by unfold aj;rw [jK,jK,jP])
  rw [hN]
  refine bR (.inl rfl) rfl (eP rfl (f5 2) bo bo) ?_
  exact aa.tup3 (aa.agg2 Z cN) cN Z
 refine U 16 ?_
 refine aw (aN 0 (xL n l 0 hl) ?_)
 refine U 751 ?_;refine bu 0 rfl fun gl2=>?_;refine mT 12 (.rd 0 (.rd 1 (.rd 2 (.rd 3 (.rd 4 (.rd 5 (.rd 6 (.rd 7 (.rd 8 (.rd 9 (.rd 10 (.rd 11 .done)))))))))))) ?_;refine U 703000020000100009000005000070100009000005000070 ?_;refine aJ (dP (i:=(l.length-1)) (hz:=by omega)) ?_;refine Az ?_
 show cQ _ _ _ _ _ _
 refine aw (bg 1 (nq (l.set (l.length-1) (ah (cc l)).rest)) ?_ ?_)
 exact (fun j hj=>N4 hj)
 refine U 785 ?_;refine jE (cG n 0 (l.set (l.length-1) (ah (cc l)).rest) 0 4 rfl rfl rfl (cO (by simp)) Z (by simp) (fun _ _=>Z)) ?_
 dsimp only [set_cons_zero,set_cons_succ,cons_append,nil_append,length_cons,length_nil,Nat.zero_add,Nat.reduceAdd]
 refine jE (freeze 3 rfl) ?_;refine jE (lH 7 (m:=2) rfl rfl jD) ?_;refine lQ (.rd 0 (.rd 1 (.rd 2 (.rd 3 (.rd 4 (.rd 5 (.rd 6 (.rd 7 (.one 8 (.rd 9 (.rd 10 .done))))))))))) ?_;refine jy (pJ 2) ?_;refine U 400000400000 ?_;refine jy Wb ?_;refine jy Lt ?_;refine jy Wb ?_;refine jy P3 ?_;refine jy D5 ?_
 refine lP (bn 2 ?_)
 refine U 3000500070008700000400000400000 ?_
 have hN:aj tag l 0=⟨l.set (l.length-1) (ah (cc l)).rest,0,(ah (cc l)).tag,(ah (cc l)).body,(cc l).take ((cc l).length-(ah (cc l)).rest.length),true⟩:=by unfold aj;rw [jK,jK,jK]
 rw [hN]
 refine bR (.inl rfl) rfl (eP rfl (f5 2) bo bo) ?_
 exact aa.tup3 (aa.agg2 Z Z) (aa.bs (by congr 1;omega)) Z
def ab (tag:Int) (l:Zx) (k:Nat):NR :=
 aj tag l (if dq l k=true∧bO tag=false then 5 else k)
def af (tag:Int) (l:Zx) (k:Nat):Zx:=if (ab tag l k).is=true then (ab tag l k).l++[(ab tag l k).body] else (ab tag l k).l
theorem pQ (n:Nat) (l:Zx) (k:Nat) (tag:Int) (hl:0<l.length∧l.length≤1000000) (hb:(cc l).length≤10000000):AC gs prog 57 [eo n l k] [.op 0 (some n) 0,.c (.int .i64 tag)]
  (fun r H'=>r=.c (.bool (ab tag l k).is)∧H'=[eo n (af tag l k) (ab tag l k).k]):=by
 have hnl:∀ k,0<(aj tag l k).l.length∧(aj tag l k).l.length≤1000000:=fun k=>by
  unfold aj
  split
  exact hl
  ·split
   exact hl
   ·split
    exact hl
    ·simp only [aPx];exact hl
 refine ae 48 func57 fun _ _ _ _=>?_;refine U 7516 ?_;refine bu 0 rfl fun gl=>?_;refine U 501004016 ?_;refine aA (cG n k l 0 1 rfl rfl rfl (cO rfl) Z (ZA _) (fun _ _=>Z)) ?_;refine U 1500000 ?_;refine aH 13 (fun g204=>?_) fun g204=>?_
 rotate_left
 ·refine U 810300550044415004444 ?_
  first
   |(refine jE (cG n 5 l 0 2 rfl rfl rfl (cO rfl) Z (ZA _) (fun _ _=>Z)) ?_;refine jE (ce (H':=[eo n l 5]) [0] jD rfl) ?_;have hE:ab tag l k=aj tag l 5:=by unfold ab;rw [Zz (by simp_all [dq,bO])])
   |(refine jE (ce (H':=[eo n l k]) [0] jD rfl) ?_;have hE:ab tag l k=aj tag l k:=by unfold ab;rw [Zy (by simp_all [dq,bO])])
  refine U 116 ?_
  refine aw (aN 0 (kD n l _ tag hl hb) ?_)
  refine U 9009009001 ?_
  refine aq (dh (n:=2) gH rfl fun p2=>?_)
  refine aw (bn 2 ?_)
  refine U 7511 ?_
  rw [← hE]
  have hel:0<(ab tag l k).l.length∧(ab tag l k).l.length≤1000000:=by rw [hE];exact hnl _
  refine U 516 ?_;refine aaa (fun h208=>?_) fun h208=>?_
  ·refine U 810 ?_
   first
    |(refine jE (cG n (ab tag l k).k ((ab tag l k).l++[(ab tag l k).body]) 0 2 rfl rfl rfl (cO (by simp)) Z (by simp) (fun _ _=>Z)) ?_;have hL:af tag l k=(ab tag l k).l++[(ab tag l k).body]:=by unfold af;rw [Zz (by simpa using h208)])
    | have hL:af tag l k=(ab tag l k).l:=by unfold af;rw [Zy (by simpa using h208)]
   refine U 70005116 ?_
   rw [hL]
   exact bR (.inl rfl) rfl (aK rfl (ai rfl)) Z
  refine jE (freeze 1 rfl) ?_;refine jE (lH 5 (m:=2) rfl rfl jD) ?_
  dsimp only [set_cons_zero,set_cons_succ,cons_append,nil_append,length_cons,length_nil,Nat.zero_add,Nat.reduceAdd]
  refine bu 0 rfl fun gl3=>?_;refine lQ (.rd 0 (.rd 1 (.rd 2 (.rd 3 (.rd 4 (.rd 5 (.rd 6 (.one 7 (.one 8 (.rd 9 (.rd 10 (.one 11 .done)))))))))))) ?_;refine U 6000000050000000100000009000000400000400000 ?_;refine jy kF ?_
  refine HP (aM 1 1 eC fun p3=>?_)
  refine lP (aB (dN) (l2:=[(ab tag l k).body]) rfl rfl rfl rfl O (fun _ _=>Z) (aI rfl (.inl rfl) jD) rfl (fun j hj=>by rcases j with _|j<;>first|exact Z|(exfalso;simp at hj<;>omega)) underlying138 ix mM eC mX rfl (by (simp;omega)) (by (simp;omega)) (bw rfl rfl) rfl rfl rfl (fun p4=>?_))
  refine U 100000009000000 ?_
  refine lP (bn 1 ?_)
  refine U 8700000 ?_
  first
   |(refine jE (cG n (ab tag l k).k ((ab tag l k).l++[(ab tag l k).body]) 0 2 rfl rfl rfl (cO (by simp)) Z (by simp) (fun _ _=>Z)) ?_;have hL:af tag l k=(ab tag l k).l++[(ab tag l k).body]:=by unfold af;rw [Zz (by simpa using h208)])
   | have hL:af tag l k=(ab tag l k).l:=by unfold af;rw [Zy (by simpa using h208)]
  refine U 70005116 ?_
  rw [hL]
  exact bR (.inl rfl) rfl (aK rfl (ai rfl)) Z
 refine U 1 ?_
 refine aw (aN 0 (xL n l k hl) ?_)
 refine U 110000000023 ?_;refine aH 19 (fun g204_2=>?_) fun g204_2=>?_
 rotate_left
 ·refine U 8103005500444 ?_
  first
   |(refine jE (cG n 5 l 0 2 rfl rfl rfl (cO rfl) Z (ZA _) (fun _ _=>Z)) ?_;refine jE (ce (H':=[eo n l 5]) [0] jD rfl) ?_;have hE:ab tag l k=aj tag l 5:=by unfold ab;rw [Zz (by simp_all [dq,bO])])
   |(refine jE (ce (H':=[eo n l k]) [0] jD rfl) ?_;have hE:ab tag l k=aj tag l k:=by unfold ab;rw [Zy (by simp_all [dq,bO])])
  refine U 116 ?_
  refine aw (aN 0 (kD n l _ tag hl hb) ?_)
  refine U 9009009001 ?_
  refine aq (dh (n:=2) gH rfl fun p3=>?_)
  refine aw (bn 2 ?_)
  refine U 7511 ?_
  rw [← hE]
  have hel:0<(ab tag l k).l.length∧(ab tag l k).l.length≤1000000:=by rw [hE];exact hnl _
  refine U 516 ?_;refine aaa (fun h208=>?_) fun h208=>?_
  ·refine U 810 ?_
   first
    |(refine jE (cG n (ab tag l k).k ((ab tag l k).l++[(ab tag l k).body]) 0 2 rfl rfl rfl (cO (by simp)) Z (by simp) (fun _ _=>Z)) ?_;have hL:af tag l k=(ab tag l k).l++[(ab tag l k).body]:=by unfold af;rw [Zz (by simpa using h208)])
    | have hL:af tag l k=(ab tag l k).l:=by unfold af;rw [Zy (by simpa using h208)]
   refine U 70005116 ?_
   rw [hL]
   exact bR (.inl rfl) rfl (aK rfl (ai rfl)) Z
  refine jE (freeze 1 rfl) ?_;refine jE (lH 5 (m:=2) rfl rfl jD) ?_
  dsimp only [set_cons_zero,set_cons_succ,cons_append,nil_append,length_cons,length_nil,Nat.zero_add,Nat.reduceAdd]
  refine bu 0 rfl fun gl3=>?_;refine lQ (.rd 0 (.rd 1 (.rd 2 (.rd 3 (.rd 4 (.rd 5 (.rd 6 (.one 7 (.one 8 (.rd 9 (.rd 10 (.one 11 .done)))))))))))) ?_;refine U 6000000050000000100000009000000400000400000 ?_;refine jy kF ?_
  refine HP (aM 1 1 eC fun p4=>?_)
  refine lP (aB (dN) (l2:=[(ab tag l k).body]) rfl rfl rfl rfl O (fun _ _=>Z) (aI rfl (.inl rfl) jD) rfl (fun j hj=>by rcases j with _|j<;>first|exact Z|(exfalso;simp at hj<;>omega)) underlying138 ix mM eC mX rfl (by (simp;omega)) (by (simp;omega)) (bw rfl rfl) rfl rfl rfl (fun p5=>?_))
  refine U 100000009000000 ?_
  refine lP (bn 1 ?_)
  refine U 8700000 ?_
  first
   |(refine jE (cG n (ab tag l k).k ((ab tag l k).l++[(ab tag l k).body]) 0 2 rfl rfl rfl (cO (by simp)) Z (by simp) (fun _ _=>Z)) ?_;have hL:af tag l k=(ab tag l k).l++[(ab tag l k).body]:=by unfold af;rw [Zz (by simpa using h208)])
   | have hL:af tag l k=(ab tag l k).l:=by unfold af;rw [Zy (by simpa using h208)]
  refine U 70005116 ?_
  rw [hL]
  exact bR (.inl rfl) rfl (aK rfl (ai rfl)) Z
 refine U 1 ?_
 refine aq (ak (wA _) ?_)
 refine U 510000000030 ?_;refine aaa (fun h204=>?_) fun h204=>?_
 ·refine U 810 ?_
  first
   |(refine jE (cG n 5 l 0 2 rfl rfl rfl (cO rfl) Z (ZA _) (fun _ _=>Z)) ?_;refine jE (ce (H':=[eo n l 5]) [0] jD rfl) ?_;have hE:ab tag l k=aj tag l 5:=by unfold ab;rw [Zz (by simp_all [dq,bO])])
   |(refine jE (ce (H':=[eo n l k]) [0] jD rfl) ?_;have hE:ab tag l k=aj tag l k:=by unfold ab;rw [Zy (by simp_all [dq,bO])])
  refine U 116 ?_
  refine aw (aN 0 (kD n l _ tag hl hb) ?_)
  refine U 9009009001 ?_
  refine aq (dh (n:=2) gH rfl fun p3=>?_)
  refine aw (bn 2 ?_)
  refine U 7511 ?_
  rw [← hE]
  have hel:0<(ab tag l k).l.length∧(ab tag l k).l.length≤1000000:=by rw [hE];exact hnl _
  refine U 516 ?_;refine aaa (fun h208=>?_) fun h208=>?_
  ·refine U 810 ?_
   first
    |(refine jE (cG n (ab tag l k).k ((ab tag l k).l++[(ab tag l k).body]) 0 2 rfl rfl rfl (cO (by simp)) Z (by simp) (fun _ _=>Z)) ?_;have hL:af tag l k=(ab tag l k).l++[(ab tag l k).body]:=by unfold af;rw [Zz (by simpa using h208)])
    | have hL:af tag l k=(ab tag l k).l:=by unfold af;rw [Zy (by simpa using h208)]
   refine U 70005116 ?_
   rw [hL]
   exact bR (.inl rfl) rfl (aK rfl (ai rfl)) Z
  refine jE (freeze 1 rfl) ?_;refine jE (lH 5 (m:=2) rfl rfl jD) ?_
  dsimp only [set_cons_zero,set_cons_succ,cons_append,nil_append,length_cons,length_nil,Nat.zero_add,Nat.reduceAdd]
  refine bu 0 rfl fun gl3=>?_;refine lQ (.rd 0 (.rd 1 (.rd 2 (.rd 3 (.rd 4 (.rd 5 (.rd 6 (.one 7 (.one 8 (.rd 9 (.rd 10 (.one 11 .done)))))))))))) ?_;refine U 6000000050000000100000009000000400000400000 ?_;refine jy kF ?_
  refine HP (aM 1 1 eC fun p4=>?_)
  refine lP (aB (dN) (l2:=[(ab tag l k).body]) rfl rfl rfl rfl O (fun _ _=>Z) (aI rfl (.inl rfl) jD) rfl (fun j hj=>by rcases j with _|j<;>first|exact Z|(exfalso;simp at hj<;>omega)) underlying138 ix mM eC mX rfl (by (simp;omega)) (by (simp;omega)) (bw rfl rfl) rfl rfl rfl (fun p5=>?_))
  refine U 100000009000000 ?_
  refine lP (bn 1 ?_)
  refine U 8700000 ?_
  first
   |(refine jE (cG n (ab tag l k).k ((ab tag l k).l++[(ab tag l k).body]) 0 2 rfl rfl rfl (cO (by simp)) Z (by simp) (fun _ _=>Z)) ?_;have hL:af tag l k=(ab tag l k).l++[(ab tag l k).body]:=by unfold af;rw [Zz (by simpa using h208)])
   | have hL:af tag l k=(ab tag l k).l:=by unfold af;rw [Zy (by simpa using h208)]
  refine U 70005116 ?_
  rw [hL]
  exact bR (.inl rfl) rfl (aK rfl (ai rfl)) Z
 refine bu 0 rfl fun gl2=>?_;refine U 1200 ?_;refine jq (cK 4) ?_;refine U 10040 ?_
 refine aw (bg 1 (fl [.os 2 gl2 0 l.length 1,.err 5]) ?_ ?_)
 exact sb
 refine U 85 ?_
 first
  |(refine jE (cG n 5 l 0 2 rfl rfl rfl (cO rfl) Z (ZA _) (fun _ _=>Z)) ?_;refine jE (ce (H':=[eo n l 5]) [0] jD rfl) ?_;have hE:ab tag l k=aj tag l 5:=by unfold ab;rw [Zz (by simp_all [dq,bO])])
  |(refine jE (ce (H':=[eo n l k]) [0] jD rfl) ?_;have hE:ab tag l k=aj tag l k:=by unfold ab;rw [Zy (by simp_all [dq,bO])])
 refine U 116 ?_
 refine aw (aN 0 (kD n l _ tag hl hb) ?_)
 refine U 9009009001 ?_
 refine aq (dh (n:=2) gH rfl fun p3=>?_)
 refine aw (bn 2 ?_)
 refine U 7511 ?_
 rw [← hE]
 have hel:0<(ab tag l k).l.length∧(ab tag l k).l.length≤1000000:=by rw [hE];exact hnl _
 refine U 516 ?_;refine aaa (fun h208=>?_) fun h208=>?_
 ·refine U 810 ?_
  first
   |(refine jE (cG n (ab tag l k).k ((ab tag l k).l++[(ab tag l k).body]) 0 2 rfl rfl rfl (cO (by simp)) Z (by simp) (fun _ _=>Z)) ?_;have hL:af tag l k=(ab tag l k).l++[(ab tag l k).body]:=by unfold af;rw [Zz (by simpa using h208)])
   | have hL:af tag l k=(ab tag l k).l:=by unfold af;rw [Zy (by simpa using h208)]
  refine U 70005116 ?_
  rw [hL]
  exact bR (.inl rfl) rfl (aK rfl (ai rfl)) Z
 refine jE (freeze 1 rfl) ?_;refine jE (lH 5 (m:=2) rfl rfl jD) ?_
 dsimp only [set_cons_zero,set_cons_succ,cons_append,nil_append,length_cons,length_nil,Nat.zero_add,Nat.reduceAdd]
 refine bu 0 rfl fun gl3=>?_;refine lQ (.rd 0 (.rd 1 (.rd 2 (.rd 3 (.rd 4 (.rd 5 (.rd 6 (.one 7 (.one 8 (.rd 9 (.rd 10 (.one 11 .done)))))))))))) ?_;refine U 6000000050000000100000009000000400000400000 ?_;refine jy kF ?_
 refine HP (aM 1 1 eC fun p4=>?_)
 refine lP (aB (dN) (l2:=[(ab tag l k).body]) rfl rfl rfl rfl O (fun _ _=>Z) (aI rfl (.inl rfl) jD) rfl (fun j hj=>by rcases j with _|j<;>first|exact Z|(exfalso;simp at hj<;>omega)) underlying138 ix mM eC mX rfl (by (simp;omega)) (by (simp;omega)) (bw rfl rfl) rfl rfl rfl (fun p5=>?_))
 refine U 100000009000000 ?_
 refine lP (bn 1 ?_)
 refine U 8700000 ?_
 first
  |(refine jE (cG n (ab tag l k).k ((ab tag l k).l++[(ab tag l k).body]) 0 2 rfl rfl rfl (cO (by simp)) Z (by simp) (fun _ _=>Z)) ?_;have hL:af tag l k=(ab tag l k).l++[(ab tag l k).body]:=by unfold af;rw [Zz (by simpa using h208)])
  | have hL:af tag l k=(ab tag l k).l:=by unfold af;rw [Zy (by simpa using h208)]
 refine U 70005116 ?_
 rw [hL]
 exact bR (.inl rfl) rfl (aK rfl (ai rfl)) Z
def ba (l:Zx) (k:Nat):Nat:=if k≠0 then k else if l.length=1 then 24 else if 0<(cc l).length then 4 else 0
def bm (l:Zx) (k:Nat):Zx:=if ba l k=0 then l.take (l.length-1) else l
theorem N5 {l:Zx} {m j:Nat} (h:j<m):aa (nq l j) (nq (l.take m) j):=by
 refine aa.of_eq ?_
 simp [nq,h]
theorem lO (n:Nat) (l:Zx) (k:Nat) (hl:0<l.length∧l.length≤1000000):AC gs prog 65 [eo n l k] [.op 0 (some n) 0]
  (fun r H'=>r=.c (.tuple #[])∧H'=[eo n (bm l k) (ba l k)]):=by
 have stay:∀ {e},ba l k=e→e≠0→bm l k=l:=fun h h0=>by unfold bm;rw [h,Zy h0]
 refine ae 45 func65 fun _ _ _ _=>?_;refine bu 0 rfl fun gl=>?_;refine U 5150000050100401620519350904016 ?_;refine an (fun h218=>?_) fun h218=>?_
 ·refine U 40010 ?_
  have e:ba l k=k:=by unfold ba;rw [jP]
  rw [stay e O,e]
  exact bK (gd:=fun z:Nat×Option Nat=>z.1) (E:=Dx l k) (.inr rfl) _ (n,gl) [0,1] jD rfl (br rfl) ⟨rfl,rfl⟩
 refine U 51216 ?_;refine an (fun h219=>?_) fun h219=>?_
 ·refine U 1200 ?_;refine jq (cK 23) ?_;refine U 10040 ?_
  refine aw (bg 1 (fl [.os 1 gl 0 l.length 1,.err 24]) ?_ ?_)
  exact sb
  refine U 4005 ?_
  have e:ba l k=24:=by unfold ba;rw [jK,jP]
  rw [stay e O,e]
  exact bK (gd:=fun z:Nat×Option Nat=>z.1) (E:=Dx l 24) (.inr rfl) _ (n,gl) [0,1] jD rfl (br rfl) ⟨rfl,rfl⟩
 refine U 150904016 ?_;refine jq (dP (i:=(l.length-1)) (hz:=by omega)) ?_;refine U 512350 ?_;refine an (fun h221=>?_) fun h221=>?_
 ·refine U 1200 ?_;refine jq (cK 3) ?_;refine U 10040 ?_
  refine aw (bg 1 (fl [.os 1 gl 0 l.length 1,.err 4]) ?_ ?_)
  exact sb
  refine U 4005 ?_
  have e:ba l k=4:=by unfold ba;rw [jK,jK,Zz (by unfold cc;omega)]
  rw [stay e O,e]
  exact bK (gd:=fun z:Nat×Option Nat=>z.1) (E:=Dx l 4) (.inr rfl) _ (n,gl) [0,1] jD rfl (br rfl) ⟨rfl,rfl⟩
 refine U 150904011200 ?_;refine jq Gb ?_;refine U 9040 ?_
 have hk0:k=0:=by omega
 refine aA (cE 1 (l.length-1) (nq (l.take (l.length-1))) rfl O (fun j hj=>N5 hj)) ?_
 refine aw (bg 1 (fl [.os 1 gl 0 (l.length-1) 1,.err 0]) ?_ ?_)
 ·exact (fun j hj=>by rcases j with _|_|j<;>first|exact Z|exact cO O|exact aa.err hk0)
 refine U 4005 ?_
 have e:ba l k=0:=by unfold ba;rw [jK,jK,Zy (by unfold cc;omega)]
 have e2:bm l k=l.take (l.length-1):=by unfold bm;rw [Zz e]
 have e3:(l.take (l.length-1)).length=l.length-1:=by rw [ZK];omega
 rw [e2,e]
 exact bK (gd:=fun z:Nat×Option Nat=>z.1) (E:=Dx (l.take (l.length-1)) 0) (.inr rfl) _ (n,gl) [0,1] jD (by unfold Dx;rw [e3];rfl) (br rfl) ⟨rfl,rfl⟩
def nB (l:Zx) (k:Nat):Nat:=if k≠0 then k else if 1<l.length then 24 else if 0<(l.getD 0 []).length then 4 else 0
theorem EG (n:Nat) (l:Zx) (k:Nat) (hl:0<l.length∧l.length≤1000000):AC gs prog 66 [eo n l k] [.op 0 (some n) 0]
  (fun r H'=>r=.err (nB l k)∧H'=[eo n l k]):=by
 refine ae 31 func66 fun _ _ _ _=>?_;refine U 207516 ?_;refine bu 0 rfl fun gl=>?_;refine U 51500000501004016 ?_;refine an (fun h292=>?_) fun h292=>?_
 ·refine U 30005000700051501004016 ?_
  exact iZ (gd:=fun z:Nat×Option Nat=>z.1) (E:=Dx l k) (.inl rfl) (n,gl) [0,1] jD rfl (aK rfl (ai rfl)) (aa.err (by unfold nB;rw [jP]))
 refine U 512350904016 ?_;refine an (fun h294=>?_) fun h294=>?_
 ·refine eA ?_;refine jq (cK 23) ?_;refine U 30005000700051 ?_
  exact iZ (gd:=fun z:Nat×Option Nat=>z.1) (E:=Dx l k) (.inl rfl) (n,gl) [0,1] jD rfl (aK rfl (ai rfl)) (aa.err (by unfold nB;rw [jK,jP]))
 refine U 512350200000050904016 ?_;refine an (fun h296=>?_) fun h296=>?_
 ·refine eA ?_;refine jq (cK 3) ?_;refine U 30005000700051 ?_
  exact iZ (gd:=fun z:Nat×Option Nat=>z.1) (E:=Dx l k) (.inl rfl) (n,gl) [0,1] jD rfl (aK rfl (ai rfl)) (aa.err (by unfold nB;rw [jK,jK,jP]))
 refine U 7000516840010 ?_
 have e:nB l k=0:=by unfold nB;rw [jK,jK,jK]
 rw [e]
 exact iZ (gd:=fun z:Nat×Option Nat=>z.1) (E:=Dx l k) (.inl rfl) (n,gl) [0,1] jD rfl (aK rfl (ai rfl)) aa.nil
theorem M1 (n:Nat) (l:Zx) (k:Nat) (hl:0<l.length∧l.length≤1000000) (hb:(cc l).length≤10000000):AC gs prog 91 [eo n l k] [.op 0 (some n) 0]
  (fun r H'=>r=bc (aj 0 l k).raw∧H'=[eo n (aj 0 l k).l (aj 0 l k).k]):=by
 have hr:(aj 0 l k).raw.length≤100000000000:=by
  unfold aj
  split
  ·simp
  ·split
   ·simp
   ·split
    ·simp
    ·simp only [ZK];omega
 refine ae 14 func91 fun _ _ _ _=>?_;refine U 16516 ?_
 refine aw (aN 0 (kD n l k 0 hl hb) ?_)
 refine U 9009009001 ?_
 refine aq (dh (n:=2) gH rfl fun p2=>?_)
 refine aw (bn 2 ?_)
 refine U 16511 ?_
 refine aq (ak (lD (aj 0 l k).raw hr) ?_)
 refine U 700051 ?_
 exact bR (.inl rfl) rfl (aK rfl (ai rfl)) Z
theorem xP {tag:Int} {l:Zx} {k:Nat} (h:(aj tag l k).is=true):(aj tag l k).k=0∧(aj tag l k).body.length≤65530:=by
 have hb:=gT (cc l)
 unfold aj at h ⊢
 split
 ·rename_i h1;rw [Zz h1] at h;cases h
 ·rename_i h1;rw [Zy h1] at h
  split
  ·rename_i h2;rw [Zz h2] at h;cases h
  ·rename_i h2;rw [Zy h2] at h
   split
   ·rename_i h3;rw [Zz h3] at h;cases h
   exact ⟨rfl,hb.2.2.1⟩
def gM (tag:Int) (l:Zx) (k:Nat) (e:I→Nat):Nat:=if (aj tag l k).is=true then e (aj tag l k).body else (aj tag l k).k
theorem uI {tag:Int} {l:Zx} {k:Nat}:(aj tag l k).l.length=l.length:=by
 unfold aj
 split
 rfl
 ·split
  rfl
  ·split
   rfl
   ·simp
theorem zG {gs:List Nat} [ib gs] {f:FuncId} {m:Nat} {fv:Nat→CV} (hc:bA prog f=true) (n:Nat) (l:Zx) (k:Nat) (tag:Int) (get:I→Int×Nat) (hl:0<l.length∧l.length≤1000000) (hb:(cc l).length≤10000000) (hp:∀ b:I,b.length≤65530→cd gs prog f (bc b::(List.range m).map fv) (.tup 2 (fl [.c (.int .i64 (get b).1),.err (get b).2]))) :
  AC gs prog 124 [eo n l k] [.op 0 (some n) 0,.c (.int .i64 tag),.fn f m fv]
   (fun r H'=>r=.c (.int .i64 (if (aj tag l k).is=true∧(get (aj tag l k).body).2=0 then (get (aj tag l k).body).1 else 0))∧H'=[eo n (aj tag l k).l (gM tag l k fun b=>(get b).2)]):=by
 have hln:(aj tag l k).l.length=l.length:=uI
 refine ae 38 func124 fun _ _ _ _=>?_;refine U 116516516 ?_
 refine aw (aN 0 (kD n l k tag hl hb) ?_)
 refine U 9009009001 ?_
 refine aq (dh (n:=2) gH rfl fun p2=>?_)
 refine aw (bn 2 ?_)
 refine U 530167511 ?_;refine an (fun h232=>?_) fun h232=>?_
 ·refine U 300070005116 ?_
  rw [Zy (by simp_all)]
  have e:(gM tag l k fun b=>(get b).2)=(aj tag l k).k:=by unfold gM;rw [Zy (by simpa using h232)]
  rw [e]
  exact bR (.inl rfl) rfl (aK rfl (ai rfl)) Z
 refine U 810 ?_
 have his:=xP (by simpa using h232)
 refine U 5010016 ?_
 refine aq (ln rfl rfl (by assumption) (hp (aj tag l k).body his.2) (oz Z _) rfl rfl ?_)
 rintro _ _ ⟨rfl,rfl⟩
 refine U 55000001675119009001 ?_;refine aaa (fun h236=>?_) fun h236=>?_
 ·refine U 70005116810 ?_
  have h0:(get (aj tag l k).body).2=0:=by omega
  rw [Zz ⟨by simpa using h232,h0⟩]
  have e:(gM tag l k fun b=>(get b).2)=(aj tag l k).k:=by unfold gM;rw [Zz (by simpa using h232),his.1];exact h0
  rw [e]
  exact bR (.inl rfl) rfl (aK rfl (ai rfl)) Z
 refine bu 0 rfl fun gl=>?_;refine U 10040116 ?_
 refine aw (bn 1 ?_)
 refine U 5 ?_;refine jE (cG n (get (aj tag l k).body).2 (aj tag l k).l 0 2 rfl rfl rfl (cO rfl) Z (ZA _) (fun _ _=>Z)) ?_;refine U 300070005116 ?_
 rw [jK]
 have e:(gM tag l k fun b=>(get b).2)=(get (aj tag l k).body).2:=by unfold gM;rw [Zz (by simpa using h232)]
 rw [e]
 exact bR (.inl rfl) rfl (aK rfl (ai rfl)) Z
theorem aa.fn2' {k:FuncId} {f g:Nat→CV} (h0:aa (f 0) (g 0)) (h1:aa (f 1) (g 1)):aa (.fn k 2 f) (.fn k 2 g):=fun al St w v ⟨cs,k1,k2,k3⟩=>⟨cs,k1,k2,fun i hi=>by
 rcases i with _|_|i
 exact h0 _ _ _ _ (k3 0 O)
 exact h1 _ _ _ _ (k3 1 O)
 ·omega⟩
theorem tu {z:Int}:∀ j,j<1→aa (fl [CV.c (.int .i64 z)] (0+j)) (CV.c (.int .i64 z)):=fun j hj=>by
 obtain rfl:j=0:=by omega
 exact Z
def Qy (a b:Int):Nat→CV:=fl [.rp 1 fun _=>.c (.int .i64 a),.rp 1 fun _=>.c (.int .i64 b)]
theorem Sm (least most:Int) (b:I):cd gs prog 126 (bc b::(List.range 2).map (Qy least most)) (.tup 2 (fl [.c (.int .i64 (cq b least most).1),.err (cq b least most).2])):=by
 refine ae 12 func126 fun _ _ _ _=>?_;refine U 6060165116 ?_
 refine aq (ak (Iw b least most) ?_)
 refine U 511900900 ?_
 refine jR eN
theorem Oy (n:Nat) (l:Zx) (k:Nat) (least most:Int) (hl:0<l.length∧l.length≤1000000) (hb:(cc l).length≤10000000) :
  AC gs prog 61 [eo n l k] [.op 0 (some n) 0,.c (.int .i64 least),.c (.int .i64 most)]
   (fun r H'=>r=.c (.int .i64 (if (aj 2 l k).is=true∧(cq (aj 2 l k).body least most).2=0 then (cq (aj 2 l k).body least most).1 else 0))∧H'=[eo n (aj 2 l k).l (gM 2 l k fun b=>(cq b least most).2)]):=by
 refine ae 10 func61 fun _ _ _ _=>?_;refine eA ?_
 refine aq (ee 1 fun p1=>?_)
 refine aq (ee 1 fun p2=>?_)
 refine U 51 ?_;refine jE (freeze 1 rfl) ?_;refine jE (freeze 2 rfl) ?_;refine jE (lH 4 (m:=1) rfl rfl jD) ?_;refine jE (lH 5 (m:=1) rfl rfl jD) ?_;refine U 16 ?_;refine jq Of ?_
 refine aw (aN 0 (zG (fv:=Qy least most) (by kernel_rfl) n l k 2 (fun b=>cq b least most) hl hb (fun b _=>Sm least most b)) ?_ (ho:=rfl) (he:=(.cons (se rfl cP) (.cons (se rfl Z) (.cons (se rfl (aa.fn2' (aa.rp tu) (aa.rp tu))) .nil)))))
 refine U 700051 ?_
 exact bR (.inl rfl) rfl (aK rfl (ai rfl)) Z
theorem zV (b:I) (hb:b.length≤10000000):AC gs prog 56 [] [bc b] (fun r H'=>∃ n,r=.op 0 (some n) 0∧H'=[eo n [b] (aR b).2]):=by
 refine ae 10 func56 fun _ _ _ _=>?_;refine U 16516 ?_
 refine aq (ak (lD b O) ?_)
 refine aq (aM 1 1 eC fun p1=>?_)
 refine U 1 ?_
 refine aq (ak (yC b hb) ?_)
 refine jq (au (n:=2) rfl Wk WY rfl rfl) ?_
 refine aq (ee 2 fun p2=>?_)
 refine U 51 ?_;refine cL (ig 2 rfl) fun hn=>?_
 obtain ⟨n,rfl⟩:=hn
 refine jE (cG n (aR b).2 [b] 1 0 rfl rfl rfl (cO rfl) Z (ZA _) (fun a ha=>by obtain rfl:a=0:=(by simpa using ha);exact Z)) ?_;refine U 7000 ?_
 exact bL (.inl rfl) [1] jD rfl (aK rfl (ai rfl)) (cP (j:=0)) ⟨n,rfl,rfl⟩
theorem IB {gs:List Nat} [ib gs] {f:FuncId} {m:Nat} {fv:Nat→CV} (hc:bA prog f=true) (n:Nat) (l:Zx) (k:Nat) (tag:Int) (get:I→I×Nat) (hl:0<l.length∧l.length≤1000000) (hb:(cc l).length≤10000000) (hp:∀ b:I,b.length≤65530→cd gs prog f (bc b::(List.range m).map fv) (.tup 2 (fl [bc (get b).1,.err (get b).2]))) :
  AC gs prog 122 [eo n l k] [.op 0 (some n) 0,.c (.int .i64 tag),.fn f m fv]
   (fun r H'=>r=bc (if (aj tag l k).is=true∧(get (aj tag l k).body).2=0 then (get (aj tag l k).body).1 else [])∧H'=[eo n (aj tag l k).l (gM tag l k fun b=>(get b).2)]):=by
 have hln:(aj tag l k).l.length=l.length:=uI
 refine ae 38 func122 fun _ _ _ _=>?_;refine U 116516516 ?_
 refine aw (aN 0 (kD n l k tag hl hb) ?_)
 refine U 9009009001 ?_
 refine aq (dh (n:=2) gH rfl fun p2=>?_)
 refine aw (bn 2 ?_)
 refine U 530167511 ?_;refine an (fun h232=>?_) fun h232=>?_
 ·refine U 300070005116 ?_
  rw [Zy (by simp_all)]
  have e:(gM tag l k fun b=>(get b).2)=(aj tag l k).k:=by unfold gM;rw [Zy (by simpa using h232)]
  rw [e]
  exact bR (.inl rfl) rfl (aK rfl (ai rfl)) (by exact cN)
 refine U 810 ?_
 have his:=xP (by simpa using h232)
 refine U 5010016 ?_
 refine aq (ln rfl rfl (by assumption) (hp (aj tag l k).body his.2) (oz Z _) rfl rfl ?_)
 rintro _ _ ⟨rfl,rfl⟩
 refine U 55000001675119009001 ?_;refine aaa (fun h236=>?_) fun h236=>?_
 ·refine U 70005116810 ?_
  have h0:(get (aj tag l k).body).2=0:=by omega
  rw [Zz ⟨by simpa using h232,h0⟩]
  have e:(gM tag l k fun b=>(get b).2)=(aj tag l k).k:=by unfold gM;rw [Zz (by simpa using h232),his.1];exact h0
  rw [e]
  exact bR (.inl rfl) rfl (aK rfl (ai rfl)) (by exact Z)
 refine bu 0 rfl fun gl=>?_;refine U 10040116 ?_
 refine aw (bn 1 ?_)
 refine U 5 ?_;refine jE (cG n (get (aj tag l k).body).2 (aj tag l k).l 0 2 rfl rfl rfl (cO rfl) Z (ZA _) (fun _ _=>Z)) ?_;refine U 300070005116 ?_
 rw [jK]
 have e:(gM tag l k fun b=>(get b).2)=(get (aj tag l k).body).2:=by unfold gM;rw [Zz (by simpa using h232)]
 rw [e]
 exact bR (.inl rfl) rfl (aK rfl (ai rfl)) (by exact cN)
theorem zF {gs:List Nat} [ib gs] {f:FuncId} {m:Nat} {fv:Nat→CV} (hc:bA prog f=true) (n:Nat) (l:Zx) (k:Nat) (tag:Int) (get:I→I×Nat) (hl:0<l.length∧l.length≤1000000) (hb:(cc l).length≤10000000) (hp:∀ b:I,b.length≤65530→cd gs prog f (bc b::(List.range m).map fv) (.tup 2 (fl [ap (get b).1,.err (get b).2]))) :
  AC gs prog 129 [eo n l k] [.op 0 (some n) 0,.c (.int .i64 tag),.fn f m fv]
   (fun r H'=>r=ap (if (aj tag l k).is=true∧(get (aj tag l k).body).2=0 then (get (aj tag l k).body).1 else [])∧H'=[eo n (aj tag l k).l (gM tag l k fun b=>(get b).2)]):=by
 have hln:(aj tag l k).l.length=l.length:=uI
 refine ae 38 func129 fun _ _ _ _=>?_;refine U 116516516 ?_
 refine aw (aN 0 (kD n l k tag hl hb) ?_)
 refine U 9009009001 ?_
 refine aq (dh (n:=2) gH rfl fun p2=>?_)
 refine aw (bn 2 ?_)
 refine U 530167511 ?_;refine an (fun h232=>?_) fun h232=>?_
 ·refine U 300070005116 ?_
  rw [Zy (by simp_all)]
  have e:(gM tag l k fun b=>(get b).2)=(aj tag l k).k:=by unfold gM;rw [Zy (by simpa using h232)]
  rw [e]
  exact bR (.inl rfl) rfl (aK rfl (ai rfl)) Z
 refine U 810 ?_
 have his:=xP (by simpa using h232)
 refine U 5010016 ?_
 refine aq (ln rfl rfl (by assumption) (hp (aj tag l k).body his.2) (oz Z _) rfl rfl ?_)
 rintro _ _ ⟨rfl,rfl⟩
 refine U 55000001675119009001 ?_;refine aaa (fun h236=>?_) fun h236=>?_
 ·refine U 70005116810 ?_
  have h0:(get (aj tag l k).body).2=0:=by omega
  rw [Zz ⟨by simpa using h232,h0⟩]
  have e:(gM tag l k fun b=>(get b).2)=(aj tag l k).k:=by unfold gM;rw [Zz (by simpa using h232),his.1];exact h0
  rw [e]
  exact bR (.inl rfl) rfl (aK rfl (ai rfl)) Z
 refine bu 0 rfl fun gl=>?_;refine U 10040116 ?_
 refine aw (bn 1 ?_)
 refine U 5 ?_;refine jE (cG n (get (aj tag l k).body).2 (aj tag l k).l 0 2 rfl rfl rfl (cO rfl) Z (ZA _) (fun _ _=>Z)) ?_;refine U 300070005116 ?_
 rw [jK]
 have e:(gM tag l k fun b=>(get b).2)=(get (aj tag l k).body).2:=by unfold gM;rw [Zz (by simpa using h232)]
 rw [e]
 exact bR (.inl rfl) rfl (aK rfl (ai rfl)) Z
end
def QG (ls:Zx) (j:Nat):CV:=ap (ls.getD j [])
def YU (ls:Zx):CV:=.rs 1 ls.length fun i _=>ap (ls.getD i [])
theorem BE:Cy 1 QG:=fun l l2 j hj=>by
 simp only [QG,ZB]
 split
 ·rw [ZF O]
 ·rw [ZR O,ZS]
theorem G8 {ls:Zx}:∀ a b,a<ls.length→b<1→aa (QG ls (0+(a * 1+b))) (ap (ls.getD a [])):=fun a b ha hb=>aa.of_eq (by rw [show 0+(a * 1+b)=a by omega];rfl)
theorem Sf (ls:Zx) (sep:I) (h1:ls.length≤1000000000) (h2:(Lib.join ls sep).length≤100000000000):cd gs prog 266 [YU ls,ap sep] (ap (Lib.join ls sep)) :=
 pX fun al w St vals hs hv hr=>by
  obtain ⟨ao,cap,k1,k2,k3,k4,k5⟩:=hr 0
  rw [wW hv,show vals.getD 0 undef=.slice ao ls.length cap from k1,show vals.getD 1 undef=.string ⟨sep.toArray⟩ from hr 1]
  by_cases hn:ls=[]
  ·subst hn
   exact (strings_Join_none ao cap _ w).mono (by rintro e w' ⟨rfl,rfl⟩;exact ⟨rfl,Below.refl _ _⟩)
  ·have hp:0<ls.length:=aax.2 hn
   obtain ⟨a,rfl⟩:∃ a,ao=some a:=by
    cases ao with
    | none=>have:=k4 rfl;omega
    | some a=>exact ⟨a,rfl⟩
   have ⟨e1,e2,e3⟩:=k5 a rfl hp
   have ⟨bk,o,sp⟩:=a
   obtain rfl:sp=none:=e1
   have hm:(ls.map fun l=>(⟨l.toArray⟩:ByteArray)).map (·.data.toList)=ls:=by
    rw [a8x]
    exact (bFx fun x _=>by simp).trans (cZx ls)
   have hc:∀ (j:Nat) x,(ls.map fun l=>(⟨l.toArray⟩:ByteArray))[j]?=some x→w.cell? ⟨bk,o+j,none⟩=some (.string x):=fun j x hx=>by
    rw [aBx] at hx
    obtain ⟨y,hy,rfl⟩:=ZG.1 hx
    have hj:j<ls.length:=(ZC.1 hy).1
    obtain ⟨v,hv1,hv2⟩:=e3 j 0 hj O
    rw [show o+(j * 1+0)=o+j by omega] at hv1
    rw [hv1]
    have:v=.string ⟨(ls.getD j []).toArray⟩:=hv2
    rw [this,ZB,hy];rfl
   have hb:bk<w.heap.size:=by
    obtain ⟨v,hv1,hv2⟩:=e3 0 0 hp O
    exact World.block_lt_of_cell? w _ hv1
   have hj:=strings_Join bk o cap (ls.map fun l=>(⟨l.toArray⟩:ByteArray)) ⟨sep.toArray⟩ w hc hb (by rw [axx];omega) (by rw [axx];exact k2) (by rw [hm];show (Lib.join ls sep).length≤_;omega)
   rw [hm,axx] at hj
   exact hj
end Am
end Go.Proofs.YtghminnpfnkbjaaGreatDoor
