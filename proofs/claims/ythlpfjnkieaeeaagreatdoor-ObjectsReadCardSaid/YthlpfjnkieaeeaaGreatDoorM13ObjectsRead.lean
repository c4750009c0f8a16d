/- What the law leans on, part 13: W19c, W19d, W19e, W08s9, W19f, W19g -/
import Derived.Test.YthlpfjnkieaeeaaGreatDoorM12ObjectsRead

set_option maxRecDepth 100000
namespace Go.Proofs.YthlpfjnkieaeeaaGreatDoor
set_option linter.unusedVariables false
namespace Am
open Go.RowKit
section
open Go.RowKit Cal
section
variable (n:Nat) (w:W8) (least most:Int) (v:V4)
theorem JC {kd:Int} (h1:kd≠1) (h2:kd≠2) (h3:kd≠11) (nn:Int) (b t:List UInt8) (w:W8):jj ⟨kd,nn,false,b,t⟩ w=eZ (aH ⟨kd,nn,false,b,t⟩).1 (aH ⟨kd,nn,false,b,t⟩).2.1 (aH ⟨kd,nn,false,b,t⟩).2.2 w:=by
 unfold jj
 rw [if_neg h1,if_neg h2,if_neg h3]
theorem yH {f:Fd} (h:f.call≠0):lr f v w=jj (kT f v) w:=by unfold lr;rw [if_neg h]
theorem yJ {gs:List Nat} [fZ gs] (hs:wi w) (hb:v.b.length≤1000000):AC gs Tryz.prog 56 [iO n w] [.op 0 (some n) 0,bu v.b] (fun r H'=>r=.c (.tuple #[])∧H'=[iO n (lr ⟨6,least,most⟩ v w)]):=by
 have e:lr ⟨6,least,most⟩ v w=eZ 4 v.b 0 w:=by rw [yH _ _ (show ¬ (6:Int)=0 by decide)];exact JC (kd:=6) jD jD jD _ _ _ _
 rw [e]
 exact Cw n w v.b hb hs
theorem LH {gs:List Nat} [fZ gs] (hs:wi w):AC gs Tryz.prog 101 [iO n w] [.op 0 (some n) 0,.c (.int .i64 v.n)] (fun r H'=>r=.c (.tuple #[])∧H'=[iO n (lr ⟨9,least,most⟩ v w)]):=by
 have e:lr ⟨9,least,most⟩ v w=eZ 24 (if ol v.n then cW (kA v.n) else []) (Az v.n) w:=by rw [yH _ _ (show ¬ (9:Int)=0 by decide)];exact JC (kd:=9) jD jD jD _ _ _ _
 rw [e]
 exact CE n w v.n hs
theorem Jo {gs:List Nat} [fZ gs] (hs:wi w) (hz:-9223372036854775808≤v.n∧v.n≤9223372036854775807):AC gs Tryz.prog 143 [iO n w] [.op 0 (some n) 0,.c (.int .i64 v.n)] (fun r H'=>r=.c (.tuple #[])∧H'=[iO n (lr ⟨4,least,most⟩ v w)]):=by
 have e:lr ⟨4,least,most⟩ v w=eZ 10 (fa v.n) 0 w:=by rw [yH _ _ (show ¬ (4:Int)=0 by decide)];exact JC (kd:=4) jD jD jD _ _ _ _
 rw [e]
 exact Bj n w v.n hz hs
end
set_option maxHeartbeats 2000000 in
theorem Cm {gs:List Nat} [eN gs] [mm gs] (n:Nat) {i:Nat} {r:R8} {w:W8} (hI:ie i r w) (hi:i≤500) (v0 v1 v2 v3 v4 v5:V4) (hg:eY aM [v0,v1,v2,v3,v4,v5]):AC gs Tryz.prog 142 [iO n w] [.op 0 (some n) 0,.agg 8 (lC [v0,v1,v2,v3,v4,v5])] (fun r H'=>r=.c (.tuple #[])∧H'=[iO n (mI aM [v0,v1,v2,v3,v4,v5] w)]):=by
 obtain ⟨g0,g1,g2,g3,g4,g5,_⟩:=hg
 have o0:fD ⟨0,0,0⟩:=dJ _ (by simp [aM])
 have o1:fD ⟨6,1,4096⟩:=dJ _ (by simp [aM])
 have o2:fD ⟨9,0,0⟩:=dJ _ (by simp [aM])
 have o3:fD ⟨4,0,2⟩:=dJ _ (by simp [aM])
 have o4:fD ⟨6,0,4096⟩:=dJ _ (by simp [aM])
 have o5:fD ⟨6,0,4096⟩:=dJ _ (by simp [aM])
 have b1:=iC o1 g1 jD
 have b2:=iC o2 g2 jD
 have b3:=iC o3 g3 jD
 have b4:=iC o4 g4 jD
 have b5:=iC o5 g5 jD
 have I1:=i6 o0 g0 hI
 have I2:=i6 o1 g1 I1
 have I3:=i6 o2 g2 I2
 have I4:=i6 o3 g3 I3
 have I5:=i6 o4 g4 I4
 have I6:=i6 o5 g5 I5
 refine ai 28 Tryz.func142 fun al w0 F0 St0=>?_;refine cy ?_
 refine ak (cE 8 fun p1=>?_)
 refine jU 165 ?_;refine jq (da 0 3 true) ?_;refine eL (aV 3) ?_
 refine ar (aJ 0 (LE n hI jO v0.who) ?_)
 refine jU 505000000165 ?_
 refine ar (aJ 0 (yJ n _ 1 4096 v1 (fX I1 jO) (by have h:=b1.2.2.2.2.2.2.2.2.1;have h:v1.b.length≤4096:=h;omega)) ?_)
 refine jU 507000000165 ?_
 refine ar (aJ 0 (LH n _ 0 0 v2 (fX I2 jO)) ?_)
 refine jU 506000000165 ?_
 refine ar (aJ 0 (Jo n _ 0 2 v3 (fX I3 jO) b3.2.2.2.2.2.2.1) ?_)
 refine jU 5020000000165 ?_
 refine ar (aJ 0 (yJ n _ 0 4096 v4 (fX I4 jO) (by have h:=b4.2.2.2.2.2.2.2.2.1;have h:v4.b.length≤4096:=h;omega)) ?_)
 refine jU 12005 ?_;refine jq (da 7 1 false) ?_;refine jU 50 ?_
 refine ar (aJ 0 (yJ n _ 0 4096 v5 (fX I5 jO) (by have h:=b5.2.2.2.2.2.2.2.2.1;have h:v5.b.length≤4096:=h;omega)) ?_)
 refine jU 5 ?_
 exact bQ (.inr rfl) _ [_] [0] jD rfl (bN rfl) ⟨rfl,rfl⟩
set_option maxHeartbeats 4000000 in
theorem vt {gs:List Nat} [eN gs] [mm gs] (n:Nat) (l:List (List UInt8)) (k:Nat) (hl:0<l.length∧l.length≤1000) (hb:ec l k≤100000):AC gs Tryz.prog 144 [dA n l k] [.op 0 (some n) 0] (fun r H'=>r=.agg 8 (lC (am aM l k).2)∧H'=[dA n (am aM l k).1.1 (am aM l k).1.2]):=by
 have o0:fD ⟨0,0,0⟩:=dJ _ (by simp [aM])
 obtain ⟨l1,m1⟩:=cp ⟨0,0,0⟩ o0 hl hb
 have n0:=bX hb
 generalize hx0:aZ ⟨0,0,0⟩ l k=x0 at *
 have o1:fD ⟨6,1,4096⟩:=dJ _ (by simp [aM])
 obtain ⟨l2,m2⟩:=cp ⟨6,1,4096⟩ o1 l1 m1
 have n1:=bX m1
 generalize hx1:aZ ⟨6,1,4096⟩ x0.1.1 x0.1.2=x1 at *
 have o2:fD ⟨9,0,0⟩:=dJ _ (by simp [aM])
 obtain ⟨l3,m3⟩:=cp ⟨9,0,0⟩ o2 l2 m2
 have n2:=bX m2
 generalize hx2:aZ ⟨9,0,0⟩ x1.1.1 x1.1.2=x2 at *
 have o3:fD ⟨4,0,2⟩:=dJ _ (by simp [aM])
 obtain ⟨l4,m4⟩:=cp ⟨4,0,2⟩ o3 l3 m3
 have n3:=bX m3
 generalize hx3:aZ ⟨4,0,2⟩ x2.1.1 x2.1.2=x3 at *
 have o4:fD ⟨6,0,4096⟩:=dJ _ (by simp [aM])
 obtain ⟨l5,m5⟩:=cp ⟨6,0,4096⟩ o4 l4 m4
 have n4:=bX m4
 generalize hx4:aZ ⟨6,0,4096⟩ x3.1.1 x3.1.2=x4 at *
 have o5:fD ⟨6,0,4096⟩:=dJ _ (by simp [aM])
 obtain ⟨l6,m6⟩:=cp ⟨6,0,4096⟩ o5 l5 m5
 have n5:=bX m5
 generalize hx5:aZ ⟨6,0,4096⟩ x4.1.1 x4.1.2=x5 at *
 have hF:am aM l k=(x5.1,[x0.2,x1.2,x2.2,x3.2,x4.2,x5.2]):=by
  show am (_::_) l k=_
  simp only [am,hx0,hx1,hx2,hx3,hx4,hx5]
 rw [hF]
 refine ai 16 Tryz.func144 fun al w0 F0 St0=>?_;refine cy ?_
 refine ak (bD (n:=8) wm rfl fun p1=>?_)
 refine jU 165 ?_
 refine ar (aJ 0 ((by have h:=KI (gs:=gs) n l k ⟨0,0,0⟩ rfl jO jO;rw [hx0] at h;exact h)) ?_)
 refine jU 1 ?_
 refine ar (aJ 0 ((by have h:=mN (gs:=gs) n x0.1.1 x0.1.2 1 4096 jO jO;rw [hx1] at h;exact h)) ?_)
 refine jU 1 ?_
 refine ar (aJ 0 ((by have h:=mP (gs:=gs) n x1.1.1 x1.1.2 0 0 jO jO;rw [hx2] at h;exact h)) ?_)
 refine jU 1 ?_
 refine ar (aJ 0 ((by have h:=Bk (gs:=gs) n x2.1.1 x2.1.2 0 2 jO jO;rw [hx3] at h;exact h)) ?_)
 refine jU 1 ?_
 refine ar (aJ 0 ((by have h:=mN (gs:=gs) n x3.1.1 x3.1.2 0 4096 jO jO;rw [hx4] at h;exact h)) ?_)
 refine jU 1 ?_
 refine ar (aJ 0 ((by have h:=mN (gs:=gs) n x4.1.1 x4.1.2 0 4096 jO jO;rw [hx5] at h;exact h)) ?_)
 refine jq (ae (n:=8) rfl wm Pa rfl rfl) ?_
 refine ar (ax 8 ?_)
 refine jU 70005 ?_
 exact ba (.inl rfl) rfl (aA rfl (bz 8)) (ab.agg rfl (fun j hj=>by rcases j with _|_|_|_|_|_|_|_|j <;> first|exact cZ|omega))
set_option maxHeartbeats 4000000 in
theorem vu {gs:List Nat} [eN gs] (n:Nat) (l:List (List UInt8)) (k:Nat) (hl:0<l.length∧l.length≤1000) (hb:ec l k≤100000):AC gs Tryz.prog 149 [dA n l k] [.op 0 (some n) 0] (fun r H'=>r=.agg 7 (rE (am bU l k).2)∧H'=[dA n (am bU l k).1.1 (am bU l k).1.2]):=by
 have o0:fD ⟨3,1,1048576⟩:=ix _ (by simp [bU])
 obtain ⟨l1,m1⟩:=cp ⟨3,1,1048576⟩ o0 hl hb
 have n0:=bX hb
 generalize hx0:aZ ⟨3,1,1048576⟩ l k=x0 at *
 have o1:fD ⟨6,16,64⟩:=ix _ (by simp [bU])
 obtain ⟨l2,m2⟩:=cp ⟨6,16,64⟩ o1 l1 m1
 have n1:=bX m1
 generalize hx1:aZ ⟨6,16,64⟩ x0.1.1 x0.1.2=x1 at *
 have o2:fD ⟨4,1,4⟩:=ix _ (by simp [bU])
 obtain ⟨l3,m3⟩:=cp ⟨4,1,4⟩ o2 l2 m2
 have n2:=bX m2
 generalize hx2:aZ ⟨4,1,4⟩ x1.1.1 x1.1.2=x2 at *
 have o3:fD ⟨9,0,0⟩:=ix _ (by simp [bU])
 obtain ⟨l4,m4⟩:=cp ⟨9,0,0⟩ o3 l3 m3
 have n3:=bX m3
 generalize hx3:aZ ⟨9,0,0⟩ x2.1.1 x2.1.2=x3 at *
 have o4:fD ⟨9,0,0⟩:=ix _ (by simp [bU])
 obtain ⟨l5,m5⟩:=cp ⟨9,0,0⟩ o4 l4 m4
 have n4:=bX m4
 generalize hx4:aZ ⟨9,0,0⟩ x3.1.1 x3.1.2=x4 at *
 have o5:fD ⟨9,0,0⟩:=ix _ (by simp [bU])
 obtain ⟨l6,m6⟩:=cp ⟨9,0,0⟩ o5 l5 m5
 have n5:=bX m5
 generalize hx5:aZ ⟨9,0,0⟩ x4.1.1 x4.1.2=x5 at *
 have o6:fD ⟨3,0,1099511627776⟩:=ix _ (by simp [bU])
 obtain ⟨l7,m7⟩:=cp ⟨3,0,1099511627776⟩ o6 l6 m6
 have n6:=bX m6
 generalize hx6:aZ ⟨3,0,1099511627776⟩ x5.1.1 x5.1.2=x6 at *
 have hF:am bU l k=(x6.1,[x0.2,x1.2,x2.2,x3.2,x4.2,x5.2,x6.2]):=by
  show am (_::_) l k=_
  simp only [am,hx0,hx1,hx2,hx3,hx4,hx5,hx6]
 rw [hF]
 refine ai 18 Tryz.func149 fun al w0 F0 St0=>?_;refine cy ?_
 refine ak (bD (n:=7) zB rfl fun p1=>?_)
 refine jU 165 ?_
 refine ar (aJ 0 ((by have h:=t7 (gs:=gs) n l k 1 1048576 jO jO;rw [hx0] at h;exact h)) ?_)
 refine jU 1 ?_
 refine ar (aJ 0 ((by have h:=mN (gs:=gs) n x0.1.1 x0.1.2 16 64 jO jO;rw [hx1] at h;exact h)) ?_)
 refine jU 1 ?_
 refine ar (aJ 0 ((by have h:=Bk (gs:=gs) n x1.1.1 x1.1.2 1 4 jO jO;rw [hx2] at h;exact h)) ?_)
 refine jU 1 ?_
 refine ar (aJ 0 ((by have h:=mP (gs:=gs) n x2.1.1 x2.1.2 0 0 jO jO;rw [hx3] at h;exact h)) ?_)
 refine jU 1 ?_
 refine ar (aJ 0 ((by have h:=mP (gs:=gs) n x3.1.1 x3.1.2 0 0 jO jO;rw [hx4] at h;exact h)) ?_)
 refine jU 1 ?_
 refine ar (aJ 0 ((by have h:=mP (gs:=gs) n x4.1.1 x4.1.2 0 0 jO jO;rw [hx5] at h;exact h)) ?_)
 refine jU 1 ?_
 refine ar (aJ 0 ((by have h:=t7 (gs:=gs) n x5.1.1 x5.1.2 0 1099511627776 jO jO;rw [hx6] at h;exact h)) ?_)
 refine jq (ae (n:=7) rfl zB Qi rfl rfl) ?_
 refine ar (ax 7 ?_)
 refine jU 70005 ?_
 exact ba (.inl rfl) rfl (aA rfl (bz 7)) (ab.agg rfl (fun j hj=>by rcases j with _|_|_|_|_|_|_|j <;> first|exact cZ|omega))
set_option maxHeartbeats 4000000 in
theorem vr {gs:List Nat} [eN gs] (n:Nat) (l:List (List UInt8)) (k:Nat) (hl:0<l.length∧l.length≤1000) (hb:ec l k≤100000):AC gs Tryz.prog 161 [dA n l k] [.op 0 (some n) 0] (fun r H'=>r=.agg 4 (qP (am cg l k).2)∧H'=[dA n (am cg l k).1.1 (am cg l k).1.2]):=by
 have o0:fD ⟨3,1,1048576⟩:=lu _ (by simp [cg])
 obtain ⟨l1,m1⟩:=cp ⟨3,1,1048576⟩ o0 hl hb
 have n0:=bX hb
 generalize hx0:aZ ⟨3,1,1048576⟩ l k=x0 at *
 have o1:fD ⟨3,1,1099511627776⟩:=lu _ (by simp [cg])
 obtain ⟨l2,m2⟩:=cp ⟨3,1,1099511627776⟩ o1 l1 m1
 have n1:=bX m1
 generalize hx1:aZ ⟨3,1,1099511627776⟩ x0.1.1 x0.1.2=x1 at *
 have o2:fD ⟨9,0,0⟩:=lu _ (by simp [cg])
 obtain ⟨l3,m3⟩:=cp ⟨9,0,0⟩ o2 l2 m2
 have n2:=bX m2
 generalize hx2:aZ ⟨9,0,0⟩ x1.1.1 x1.1.2=x2 at *
 have o3:fD ⟨9,0,0⟩:=lu _ (by simp [cg])
 obtain ⟨l4,m4⟩:=cp ⟨9,0,0⟩ o3 l3 m3
 have n3:=bX m3
 generalize hx3:aZ ⟨9,0,0⟩ x2.1.1 x2.1.2=x3 at *
 have hF:am cg l k=(x3.1,[x0.2,x1.2,x2.2,x3.2]):=by
  show am (_::_) l k=_
  simp only [am,hx0,hx1,hx2,hx3]
 rw [hF]
 refine ai 12 Tryz.func161 fun al w0 F0 St0=>?_;refine cy ?_
 refine ak (bD (n:=4) zA rfl fun p1=>?_)
 refine jU 165 ?_
 refine ar (aJ 0 ((by have h:=t7 (gs:=gs) n l k 1 1048576 jO jO;rw [hx0] at h;exact h)) ?_)
 refine jU 1 ?_
 refine ar (aJ 0 ((by have h:=t7 (gs:=gs) n x0.1.1 x0.1.2 1 1099511627776 jO jO;rw [hx1] at h;exact h)) ?_)
 refine jU 1 ?_
 refine ar (aJ 0 ((by have h:=mP (gs:=gs) n x1.1.1 x1.1.2 0 0 jO jO;rw [hx2] at h;exact h)) ?_)
 refine jU 1 ?_
 refine ar (aJ 0 ((by have h:=mP (gs:=gs) n x2.1.1 x2.1.2 0 0 jO jO;rw [hx3] at h;exact h)) ?_)
 refine jq (ae (n:=4) rfl zA Qh rfl rfl) ?_
 refine ar (ax 4 ?_)
 refine jU 70005 ?_
 exact ba (.inl rfl) rfl (aA rfl (bz 4)) (ab.agg rfl (fun j hj=>by rcases j with _|_|_|_|j <;> first|exact cZ|omega))
set_option maxHeartbeats 4000000 in
theorem vq {gs:List Nat} [eN gs] [mm gs] (n:Nat) (l:List (List UInt8)) (k:Nat) (hl:0<l.length∧l.length≤1000) (hb:ec l k≤100000):AC gs Tryz.prog 164 [dA n l k] [.op 0 (some n) 0] (fun r H'=>r=.agg 3 (qo (am co l k).2)∧H'=[dA n (am co l k).1.1 (am co l k).1.2]):=by
 have o0:fD ⟨7,1,24⟩:=mK _ (by simp [co])
 obtain ⟨l1,m1⟩:=cp ⟨7,1,24⟩ o0 hl hb
 have n0:=bX hb
 generalize hx0:aZ ⟨7,1,24⟩ l k=x0 at *
 have o1:fD ⟨6,32,32⟩:=mK _ (by simp [co])
 obtain ⟨l2,m2⟩:=cp ⟨6,32,32⟩ o1 l1 m1
 have n1:=bX m1
 generalize hx1:aZ ⟨6,32,32⟩ x0.1.1 x0.1.2=x1 at *
 have o2:fD ⟨9,0,0⟩:=mK _ (by simp [co])
 obtain ⟨l3,m3⟩:=cp ⟨9,0,0⟩ o2 l2 m2
 have n2:=bX m2
 generalize hx2:aZ ⟨9,0,0⟩ x1.1.1 x1.1.2=x2 at *
 have hF:am co l k=(x2.1,[x0.2,x1.2,x2.2]):=by
  show am (_::_) l k=_
  simp only [am,hx0,hx1,hx2]
 rw [hF]
 refine ai 10 Tryz.func164 fun al w0 F0 St0=>?_;refine cy ?_
 refine ak (bD (n:=3) zy rfl fun p1=>?_)
 refine jU 165 ?_
 refine ar (aJ 0 ((by have h:=GW (gs:=gs) n l k 1 24 jO jO;rw [hx0] at h;exact h)) ?_)
 refine jU 1 ?_
 refine ar (aJ 0 ((by have h:=mN (gs:=gs) n x0.1.1 x0.1.2 32 32 jO jO;rw [hx1] at h;exact h)) ?_)
 refine jU 1 ?_
 refine ar (aJ 0 ((by have h:=mP (gs:=gs) n x1.1.1 x1.1.2 0 0 jO jO;rw [hx2] at h;exact h)) ?_)
 refine jq (ae (n:=3) rfl zy Qg rfl rfl) ?_
 refine ar (ax 3 ?_)
 refine jU 70005 ?_
 exact ba (.inl rfl) rfl (aA rfl (bz 3)) (ab.agg rfl (fun j hj=>by rcases j with _|_|_|j <;> first|exact cZ|omega))
set_option maxHeartbeats 4000000 in
theorem xH {gs:List Nat} [eN gs] (n:Nat) (l:List (List UInt8)) (k:Nat) (hl:0<l.length∧l.length≤1000) (hb:ec l k≤100000):AC gs Tryz.prog 167 [dA n l k] [.op 0 (some n) 0] (fun r H'=>r=.agg 2 (yZ (am dN l k).2)∧H'=[dA n (am dN l k).1.1 (am dN l k).1.2]):=by
 have o0:fD ⟨6,1,4096⟩:=r9 _ (by simp [dN])
 obtain ⟨l1,m1⟩:=cp ⟨6,1,4096⟩ o0 hl hb
 have n0:=bX hb
 generalize hx0:aZ ⟨6,1,4096⟩ l k=x0 at *
 have o1:fD ⟨6,0,4096⟩:=r9 _ (by simp [dN])
 obtain ⟨l2,m2⟩:=cp ⟨6,0,4096⟩ o1 l1 m1
 have n1:=bX m1
 generalize hx1:aZ ⟨6,0,4096⟩ x0.1.1 x0.1.2=x1 at *
 have hF:am dN l k=(x1.1,[x0.2,x1.2]):=by
  show am (_::_) l k=_
  simp only [am,hx0,hx1]
 rw [hF]
 refine ai 8 Tryz.func167 fun al w0 F0 St0=>?_;refine cy ?_
 refine ak (bD (n:=2) zw rfl fun p1=>?_)
 refine jU 165 ?_
 refine ar (aJ 0 ((by have h:=mN (gs:=gs) n l k 1 4096 jO jO;rw [hx0] at h;exact h)) ?_)
 refine jU 1 ?_
 refine ar (aJ 0 ((by have h:=mN (gs:=gs) n x0.1.1 x0.1.2 0 4096 jO jO;rw [hx1] at h;exact h)) ?_)
 refine jq (ae (n:=2) rfl zw Qf rfl rfl) ?_
 refine ar (ax 2 ?_)
 refine jU 70005 ?_
 exact ba (.inl rfl) rfl (aA rfl (bz 2)) (ab.agg rfl (fun j hj=>by rcases j with _|_|j <;> first|exact cZ|omega))
end
section
open Go.RowKit Cal
theorem tE {gs:List Nat} [fZ gs] {fR fP fG:FuncId} (hcR:br Tryz.prog fR=true) (hcP:br Tryz.prog fP=true) (kind:Int) (hk:bL kind) (X:Nat→CV) (rb:Bool) (s2:W8) (hR:bM gs Tryz.prog fR [.agg 8 X] (.c (.bool rb))) (hP:rb=true→∀ n,AC gs Tryz.prog fP [iO n (jj (vE kind) (jj (w1 48) GJ))] [.op 0 (some n) 0,.agg 8 X] (fun r H'=>r=.c (.tuple #[])∧H'=[iO n s2])) (h2:rb=true→wi s2) (h3:rb=true→wi (db s2)) :
  bM gs Tryz.prog 70 [uN kind fR fP fG,.agg 8 X] (.tup 2 (fl [bu (if rb=true then pH (db s2) else []),.err (if rb=true then iF (db s2) else 4)])):=by
 have I0:=oh hk
 have I1:=iz y6 (fF (t:=48) jD)
 refine ai 32 Tryz.func70 fun al w0 F0 St0=>?_;refine cy ?_
 refine ak (cE 4 fun p1=>?_)
 refine ak (cE 8 fun p2=>?_)
 refine jU 5010067511 ?_;refine eL (aV 8) ?_
 refine ak (iE rfl rfl (by assumption) (hR) (.cons (ab.agg rfl (fun j hj=>by rcases j with _|_|_|_|_|_|_|_|j <;> first|exact cZ|omega)) .nil) rfl rfl ?_)
 rintro _ _ ⟨rfl,rfl⟩
 refine jU 530 ?_;refine aq (fun h78=>?_) fun h78=>?_
 ·refine iy ?_;refine ff (.rd 0 (.rd 1 (.rd 2 .done))) ?_;refine jU 80003000700088070704000000 ?_
  have hrb:rb=false:=by simpa using h78
  rw [hrb,if_neg jD,if_neg jD]
  exact cT cN cZ
 refine jU 810 ?_
 have hrb:rb=true:=by simpa using h78
 rw [if_pos hrb,if_pos hrb]
 refine cy ?_;refine jq (ae (n:=3) rfl P4 Qe rfl rfl) ?_
 refine ak (cE 3 fun p3=>?_)
 refine jU 51 ?_;refine kZ (tW 14 rfl) fun hn=>?_
 obtain ⟨n,rfl⟩:=hn
 refine jE (Qm n 2 rfl cZ cZ ab.nil) ?_
 dsimp only [List.set_cons_zero,List.set_cons_succ,List.cons_append,List.nil_append,List.length_cons,List.length_nil,Nat.zero_add,Nat.reduceAdd]
 refine jU 16 ?_
 refine ar (aJ 2 ((by have h:=u4 (gs:=gs) n GJ 48 NZ;rw [← rr] at h;exact h)) ?_)
 refine jU 5090165 ?_
 refine ar (aJ 2 ((by have h:=Bj (gs:=gs) n (jj (w1 48) GJ) kind (by unfold bL at hk;omega) (fX I1 jD);rw [← M4] at h;exact h)) ?_)
 refine jU 150100065 ?_;refine eL (aV 8) ?_
 refine ar (hZ (i:=2) rfl rfl (by assumption) rfl (hP hrb n) (.cons cP (.cons (ab.agg rfl (fun j hj=>by rcases j with _|_|_|_|_|_|_|_|j <;> first|exact cZ|omega)) .nil)) rfl rfl ?_)
 rintro _ _ ⟨rfl,rfl⟩
 refine ⟨_,rfl,?_⟩
 refine jU 165 ?_
 refine ar (aJ 2 (sL n s2 (h2 hrb)) ?_)
 refine jU 165 ?_
 refine ar (aJ 2 (Jy n (db s2) (h3 hrb)) ?_)
 refine jU 511900900 ?_
 refine jR (cX (hv:=cZ))
set_option maxHeartbeats 2000000 in
theorem nX {gs:List Nat} [fZ gs] {fR fP fG:FuncId} (hcR:br Tryz.prog fR=true) (hcG:br Tryz.prog fG=true) (kind:Int) (hk:bL kind) (fs:List Fd) (hfl:fs.length≤8) (hok:∀ f ∈ fs,fD f) (X:List V4→Nat→CV) (hlf:∀ vs,(List.map (X vs) (List.range 8)).all fo=true) (hz:∀ j,j<8→ab (fl [.c (.int .i64 0),au [],au [],.c (.slice none 0 0),.c (.int .i64 0),.c (.int .i64 0),.c (.slice none 0 0),.c (.slice none 0 0)] j) (X (List.replicate fs.length V4.z) j)) (hR:∀ vs:List V4,vs.length=fs.length→bM gs Tryz.prog fR [.agg 8 (X vs)] (.c (.bool (aQ kind fs vs)))) (hG:∀ n l k,0<l.length∧l.length≤1000→ec l k≤100000→AC gs Tryz.prog fG [dA n l k] [.op 0 (some n) 0] (fun r H'=>r=.agg 8 (X (am fs l k).2)∧H'=[dA n (am fs l k).1.1 (am fs l k).1.2])) (b:List UInt8) (hb:b.length≤90000) :
  bM gs Tryz.prog 72 [uN kind fR fP fG,bu b] (.tup 2 (fl [.agg 8 (X (aR kind fs b).1),.err (aR kind fs b).2])):=by
 have m0:ec [b] (af b).2≤100000:=by
  have:cm [b]=b.length:=by simp [cm]
  unfold ec
  split <;> omega
 obtain ⟨f1,f2⟩:=eF aL rfl [b] (af b).2
 have f1':(aa aL [b] (af b).2).l=an 48 [b] (af b).2:=f1
 have f2':(aa aL [b] (af b).2).k=(ag 48 [b] (af b).2).k:=f2
 obtain ⟨l1,m1⟩:=dP aL (m:=1) ⟨by simp,by simp⟩ m0 jD
 obtain ⟨l2,m2⟩:=dP (aK kind) l1 m1 (by show ¬ (4:Int)=2;decide)
 obtain ⟨_,l3⟩:=jL fs (k:=(aa (aK kind) (aa aL [b] (af b).2).l (aa aL [b] (af b).2).k).k) hok l2.1
 have hvl:=eG fs (aa (aK kind) (aa aL [b] (af b).2).l (aa aL [b] (af b).2).k).l (aa (aK kind) (aa aL [b] (af b).2).l (aa aL [b] (af b).2).k).k
 generalize hx:am fs (aa (aK kind) (aa aL [b] (af b).2).l (aa aL [b] (af b).2).k).l (aa (aK kind) (aa aL [b] (af b).2).l (aa aL [b] (af b).2).k).k=x at *
 obtain ⟨f3,f4⟩:=dK aE rfl x.1.1 x.1.2
 have l4:0<(aa aE x.1.1 x.1.2).l.length∧(aa aE x.1.1 x.1.2).l.length≤1000:=by
  rw [f3]
  obtain ⟨_,_,v3,v4⟩:=gI (l:=x.1.1) (k:=x.1.2) l3.1
  by_cases h0:bc x.1.1 x.1.2=0
  ·have:=v3 h0;omega
  ·rw [v4 h0];omega
 have hM1:(aW kind fs b).1=x.2:=by unfold aW;dsimp only;rw [hx]
 have hM2:(aW kind fs b).2=ke (aa aE x.1.1 x.1.2).l (aa aE x.1.1 x.1.2).k:=by unfold aW;dsimp only;rw [hx]
 have n1:=bX m1
 refine ai 40 Tryz.func72 fun al w0 F0 St0=>?_;refine cy ?_
 refine ak (cE 4 fun p1=>?_)
 refine ak (bD (n:=8) wm rfl fun p2=>?_)
 refine jU 651 ?_
 refine ak (bD (n:=8) wm rfl fun p3=>?_)
 refine jU 165 ?_
 refine ak (su (lX b jO) ?_)
 rintro _ _ ⟨n,rfl,rfl⟩
 refine jU 1651 ?_
 refine ar (aJ 3 ((by have h:=kV (gs:=gs) n [b] (af b).2 48 (by simp) (by show b.length≤_;omega);rw [← f1',← f2'] at h;exact h)) ?_)
 refine jU 50905090165 ?_
 refine ar (aJ 3 (ow n (aa aL [b] (af b).2).l (aa aL [b] (af b).2).k kind jO jO) ?_)
 refine jU 150500000065 ?_
 refine ar (hZ (i:=3) rfl rfl (by assumption) rfl ((by have h:=hG n (aa (aK kind) (aa aL [b] (af b).2).l (aa aL [b] (af b).2).k).l (aa (aK kind) (aa aL [b] (af b).2).l (aa aL [b] (af b).2).k).k jO m2;rw [hx] at h;exact h)) (.cons cP .nil) rfl rfl ?_)
 rintro _ _ ⟨rfl,rfl⟩
 refine ⟨_,rfl,?_⟩
 refine ak (bD (n:=8) wm rfl fun p6=>?_)
 refine ar (bh 8 (X x.2) ?_ ?_ (hleaf:=hlf _))
 ·exact (fun j hj=>by rcases j with _|_|_|_|_|_|_|_|j <;> first|exact cZ|omega)
 refine jU 165 ?_
 refine ar (aJ 3 ((by have h:=jH (gs:=gs) n x.1.1 x.1.2 jO;rw [← f3,← f4] at h;exact h)) ?_)
 refine jU 1675 ?_
 refine ar (aJ 3 (ox n (aa aE x.1.1 x.1.2).l (aa aE x.1.1 x.1.2).k jO) ?_)
 refine jU 55000001651 ?_;refine aq (fun h97=>?_) fun h97=>?_
 ·refine cy ?_;refine eL (aV 8) ?_;refine jU 1 ?_
  refine ar (ax 8 ?_)
  refine jU 51 ?_
  refine jR (ii (cX (hres:=bH rfl (bz 8) aG) (hv:=?_)))
  rw [show aR kind fs b=(List.replicate fs.length V4.z,(aW kind fs b).2) by unfold aR;rw [jP],hM2]
  exact cT (ab.agg rfl (fun j hj=>by rcases j with _|_|_|_|_|_|_|_|j <;> first|exact hz _ jO|omega)) cZ
 refine jU 5010067810 ?_;refine eL (aV 8) ?_
 refine ak (iE rfl rfl (by assumption) (hR x.2 hvl) (.cons (ab.agg rfl (fun j hj=>by rcases j with _|_|_|_|_|_|_|_|j <;> first|exact cZ|omega)) .nil) rfl rfl ?_)
 rintro _ _ ⟨rfl,rfl⟩
 refine jU 530 ?_;refine aq (fun h100=>?_) fun h100=>?_
 rotate_left
 ·refine jU 6810 ?_;refine eL (aV 8) ?_
  refine ar (ax 8 ?_ (hleaf:=(by simpa only [Nat.zero_add] using hlf x.2)))
  refine jU 51 ?_
  refine jR (cX (hres:=bH rfl (bz 8) aG) (hv:=?_))
  rw [show aR kind fs b=(x.2,0) by unfold aR;rw [jK,if_neg (by rw [hM1];simpa using h100),hM1]]
  exact cT (ab.agg rfl (fun j hj=>by rcases j with _|_|_|_|_|_|_|_|j <;> first|exact cZ|omega)) ab.nil
 refine iy ?_;refine jI (.rd 0 (.rd 1 (.one 2 (.rd 3 .done)))) ?_;refine MS (aV 8) ?_;refine ig (dy 3) ?_
 refine iL (ax 8 ?_)
 refine jU 8700000400000 ?_
 refine jR (ii (cX (hres:=bH rfl (bz 8) aG) (hv:=?_)))
 rw [show aR kind fs b=(List.replicate fs.length V4.z,4) by unfold aR;rw [jK,if_pos (by rw [hM1];simpa using h100)]]
 exact cT (ab.agg rfl (fun j hj=>by rcases j with _|_|_|_|_|_|_|_|j <;> first|exact hz _ jO|omega)) cZ
def JP:CV:=uN 2 141 142 144
theorem vX {gs:List Nat}:bM gs Tryz.prog 69 [] JP:=by
 refine ai 2 Tryz.func69 fun al w0 F0 St0=>?_;refine cy ?_
 refine ak (bD (n:=4) MJ rfl fun p1=>?_)
 refine jU 65 ?_;refine jq (ae (n:=4) rfl MJ Pj rfl rfl) ?_
 refine ar (ax 4 ?_)
 refine jU 5 ?_
 refine jR (cX (hres:=aA rfl (bz 4)) (hv:=ab.agg rfl (fun j hj=>by rcases j with _|_|_|_|j <;> first|exact cZ|exact ab.fn0|omega)))
set_option maxHeartbeats 2000000 in
theorem nY {gs:List Nat} [fZ gs] {fR fP fG:FuncId} (hcR:br Tryz.prog fR=true) (hcG:br Tryz.prog fG=true) (kind:Int) (hk:bL kind) (fs:List Fd) (hfl:fs.length≤8) (hok:∀ f ∈ fs,fD f) (X:List V4→Nat→CV) (hlf:∀ vs,(List.map (X vs) (List.range 7)).all fo=true) (hz:∀ j,j<7→ab (fl [.c (.int .i64 0),.c (.slice none 0 0),.c (.int .i64 0),.c (.int .i64 0),.c (.int .i64 0),.c (.int .i64 0),.c (.int .i64 0)] j) (X (List.replicate fs.length V4.z) j)) (hR:∀ vs:List V4,vs.length=fs.length→bM gs Tryz.prog fR [.agg 7 (X vs)] (.c (.bool (aQ kind fs vs)))) (hG:∀ n l k,0<l.length∧l.length≤1000→ec l k≤100000→AC gs Tryz.prog fG [dA n l k] [.op 0 (some n) 0] (fun r H'=>r=.agg 7 (X (am fs l k).2)∧H'=[dA n (am fs l k).1.1 (am fs l k).1.2])) (b:List UInt8) (hb:b.length≤90000) :
  bM gs Tryz.prog 75 [uN kind fR fP fG,bu b] (.tup 2 (fl [.agg 7 (X (aR kind fs b).1),.err (aR kind fs b).2])):=by
 have m0:ec [b] (af b).2≤100000:=by
  have:cm [b]=b.length:=by simp [cm]
  unfold ec
  split <;> omega
 obtain ⟨f1,f2⟩:=eF aL rfl [b] (af b).2
 have f1':(aa aL [b] (af b).2).l=an 48 [b] (af b).2:=f1
 have f2':(aa aL [b] (af b).2).k=(ag 48 [b] (af b).2).k:=f2
 obtain ⟨l1,m1⟩:=dP aL (m:=1) ⟨by simp,by simp⟩ m0 jD
 obtain ⟨l2,m2⟩:=dP (aK kind) l1 m1 (by show ¬ (4:Int)=2;decide)
 obtain ⟨_,l3⟩:=jL fs (k:=(aa (aK kind) (aa aL [b] (af b).2).l (aa aL [b] (af b).2).k).k) hok l2.1
 have hvl:=eG fs (aa (aK kind) (aa aL [b] (af b).2).l (aa aL [b] (af b).2).k).l (aa (aK kind) (aa aL [b] (af b).2).l (aa aL [b] (af b).2).k).k
 generalize hx:am fs (aa (aK kind) (aa aL [b] (af b).2).l (aa aL [b] (af b).2).k).l (aa (aK kind) (aa aL [b] (af b).2).l (aa aL [b] (af b).2).k).k=x at *
 obtain ⟨f3,f4⟩:=dK aE rfl x.1.1 x.1.2
 have l4:0<(aa aE x.1.1 x.1.2).l.length∧(aa aE x.1.1 x.1.2).l.length≤1000:=by
  rw [f3]
  obtain ⟨_,_,v3,v4⟩:=gI (l:=x.1.1) (k:=x.1.2) l3.1
  by_cases h0:bc x.1.1 x.1.2=0
  ·have:=v3 h0;omega
  ·rw [v4 h0];omega
 have hM1:(aW kind fs b).1=x.2:=by unfold aW;dsimp only;rw [hx]
 have hM2:(aW kind fs b).2=ke (aa aE x.1.1 x.1.2).l (aa aE x.1.1 x.1.2).k:=by unfold aW;dsimp only;rw [hx]
 have n1:=bX m1
 refine ai 40 Tryz.func75 fun al w0 F0 St0=>?_;refine cy ?_
 refine ak (cE 4 fun p1=>?_)
 refine ak (bD (n:=7) zB rfl fun p2=>?_)
 refine jU 651 ?_
 refine ak (bD (n:=7) zB rfl fun p3=>?_)
 refine jU 165 ?_
 refine ak (su (lX b jO) ?_)
 rintro _ _ ⟨n,rfl,rfl⟩
 refine jU 1651 ?_
 refine ar (aJ 3 ((by have h:=kV (gs:=gs) n [b] (af b).2 48 (by simp) (by show b.length≤_;omega);rw [← f1',← f2'] at h;exact h)) ?_)
 refine jU 50905090165 ?_
 refine ar (aJ 3 (ow n (aa aL [b] (af b).2).l (aa aL [b] (af b).2).k kind jO jO) ?_)
 refine jU 150500000065 ?_
 refine ar (hZ (i:=3) rfl rfl (by assumption) rfl ((by have h:=hG n (aa (aK kind) (aa aL [b] (af b).2).l (aa aL [b] (af b).2).k).l (aa (aK kind) (aa aL [b] (af b).2).l (aa aL [b] (af b).2).k).k jO m2;rw [hx] at h;exact h)) (.cons cP .nil) rfl rfl ?_)
 rintro _ _ ⟨rfl,rfl⟩
 refine ⟨_,rfl,?_⟩
 refine ak (bD (n:=7) zB rfl fun p6=>?_)
 refine ar (bh 7 (X x.2) ?_ ?_ (hleaf:=hlf _))
 ·exact (fun j hj=>by rcases j with _|_|_|_|_|_|_|j <;> first|exact cZ|omega)
 refine jU 165 ?_
 refine ar (aJ 3 ((by have h:=jH (gs:=gs) n x.1.1 x.1.2 jO;rw [← f3,← f4] at h;exact h)) ?_)
 refine jU 1675 ?_
 refine ar (aJ 3 (ox n (aa aE x.1.1 x.1.2).l (aa aE x.1.1 x.1.2).k jO) ?_)
 refine jU 55000001651 ?_;refine aq (fun h97=>?_) fun h97=>?_
 ·refine cy ?_;refine eL (aV 7) ?_;refine jU 1 ?_
  refine ar (ax 7 ?_)
  refine jU 51 ?_
  refine jR (ii (cX (hres:=bH rfl (bz 7) aG) (hv:=?_)))
  rw [show aR kind fs b=(List.replicate fs.length V4.z,(aW kind fs b).2) by unfold aR;rw [jP],hM2]
  exact cT (ab.agg rfl (fun j hj=>by rcases j with _|_|_|_|_|_|_|j <;> first|exact hz _ jO|omega)) cZ
 refine jU 5010067810 ?_;refine eL (aV 7) ?_
 refine ak (iE rfl rfl (by assumption) (hR x.2 hvl) (.cons (ab.agg rfl (fun j hj=>by rcases j with _|_|_|_|_|_|_|j <;> first|exact cZ|omega)) .nil) rfl rfl ?_)
 rintro _ _ ⟨rfl,rfl⟩
 refine jU 530 ?_;refine aq (fun h100=>?_) fun h100=>?_
 rotate_left
 ·refine jU 6810 ?_;refine eL (aV 7) ?_
  refine ar (ax 7 ?_ (hleaf:=(by simpa only [Nat.zero_add] using hlf x.2)))
  refine jU 51 ?_
  refine jR (cX (hres:=bH rfl (bz 7) aG) (hv:=?_))
  rw [show aR kind fs b=(x.2,0) by unfold aR;rw [jK,if_neg (by rw [hM1];simpa using h100),hM1]]
  exact cT (ab.agg rfl (fun j hj=>by rcases j with _|_|_|_|_|_|_|j <;> first|exact cZ|omega)) ab.nil
 refine iy ?_;refine jI (.rd 0 (.rd 1 (.one 2 (.rd 3 .done)))) ?_;refine MS (aV 7) ?_;refine ig (dy 3) ?_
 refine iL (ax 7 ?_)
 refine jU 8700000400000 ?_
 refine jR (ii (cX (hres:=bH rfl (bz 7) aG) (hv:=?_)))
 rw [show aR kind fs b=(List.replicate fs.length V4.z,4) by unfold aR;rw [jK,if_pos (by rw [hM1];simpa using h100)]]
 exact cT (ab.agg rfl (fun j hj=>by rcases j with _|_|_|_|_|_|_|j <;> first|exact hz _ jO|omega)) cZ
def rD:CV:=uN 3 147 148 149
theorem oB {gs:List Nat}:bM gs Tryz.prog 73 [] rD:=by
 refine ai 2 Tryz.func73 fun al w0 F0 St0=>?_;refine cy ?_
 refine ak (bD (n:=4) MI rfl fun p1=>?_)
 refine jU 65 ?_;refine jq (ae (n:=4) rfl MI Pi rfl rfl) ?_
 refine ar (ax 4 ?_)
 refine jU 5 ?_
 refine jR (cX (hres:=aA rfl (bz 4)) (hv:=ab.agg rfl (fun j hj=>by rcases j with _|_|_|_|j <;> first|exact cZ|exact ab.fn0|omega)))
set_option maxHeartbeats 2000000 in
theorem nW {gs:List Nat} [fZ gs] {fR fP fG:FuncId} (hcR:br Tryz.prog fR=true) (hcG:br Tryz.prog fG=true) (kind:Int) (hk:bL kind) (fs:List Fd) (hfl:fs.length≤8) (hok:∀ f ∈ fs,fD f) (X:List V4→Nat→CV) (hlf:∀ vs,(List.map (X vs) (List.range 4)).all fo=true) (hz:∀ j,j<4→ab (fl [.c (.int .i64 0),.c (.int .i64 0),.c (.int .i64 0),.c (.int .i64 0)] j) (X (List.replicate fs.length V4.z) j)) (hR:∀ vs:List V4,vs.length=fs.length→bM gs Tryz.prog fR [.agg 4 (X vs)] (.c (.bool (aQ kind fs vs)))) (hG:∀ n l k,0<l.length∧l.length≤1000→ec l k≤100000→AC gs Tryz.prog fG [dA n l k] [.op 0 (some n) 0] (fun r H'=>r=.agg 4 (X (am fs l k).2)∧H'=[dA n (am fs l k).1.1 (am fs l k).1.2])) (b:List UInt8) (hb:b.length≤90000) :
  bM gs Tryz.prog 94 [uN kind fR fP fG,bu b] (.tup 2 (fl [.agg 4 (X (aR kind fs b).1),.err (aR kind fs b).2])):=by
 have m0:ec [b] (af b).2≤100000:=by
  have:cm [b]=b.length:=by simp [cm]
  unfold ec
  split <;> omega
 obtain ⟨f1,f2⟩:=eF aL rfl [b] (af b).2
 have f1':(aa aL [b] (af b).2).l=an 48 [b] (af b).2:=f1
 have f2':(aa aL [b] (af b).2).k=(ag 48 [b] (af b).2).k:=f2
 obtain ⟨l1,m1⟩:=dP aL (m:=1) ⟨by simp,by simp⟩ m0 jD
 obtain ⟨l2,m2⟩:=dP (aK kind) l1 m1 (by show ¬ (4:Int)=2;decide)
 obtain ⟨_,l3⟩:=jL fs (k:=(aa (aK kind) (aa aL [b] (af b).2).l (aa aL [b] (af b).2).k).k) hok l2.1
 have hvl:=eG fs (aa (aK kind) (aa aL [b] (af b).2).l (aa aL [b] (af b).2).k).l (aa (aK kind) (aa aL [b] (af b).2).l (aa aL [b] (af b).2).k).k
 generalize hx:am fs (aa (aK kind) (aa aL [b] (af b).2).l (aa aL [b] (af b).2).k).l (aa (aK kind) (aa aL [b] (af b).2).l (aa aL [b] (af b).2).k).k=x at *
 obtain ⟨f3,f4⟩:=dK aE rfl x.1.1 x.1.2
 have l4:0<(aa aE x.1.1 x.1.2).l.length∧(aa aE x.1.1 x.1.2).l.length≤1000:=by
  rw [f3]
  obtain ⟨_,_,v3,v4⟩:=gI (l:=x.1.1) (k:=x.1.2) l3.1
  by_cases h0:bc x.1.1 x.1.2=0
  ·have:=v3 h0;omega
  ·rw [v4 h0];omega
 have hM1:(aW kind fs b).1=x.2:=by unfold aW;dsimp only;rw [hx]
 have hM2:(aW kind fs b).2=ke (aa aE x.1.1 x.1.2).l (aa aE x.1.1 x.1.2).k:=by unfold aW;dsimp only;rw [hx]
 have n1:=bX m1
 refine ai 40 Tryz.func94 fun al w0 F0 St0=>?_;refine cy ?_
 refine ak (cE 4 fun p1=>?_)
 refine ak (bD (n:=4) zA rfl fun p2=>?_)
 refine jU 651 ?_
 refine ak (bD (n:=4) zA rfl fun p3=>?_)
 refine jU 165 ?_
 refine ak (su (lX b jO) ?_)
 rintro _ _ ⟨n,rfl,rfl⟩
 refine jU 1651 ?_
 refine ar (aJ 3 ((by have h:=kV (gs:=gs) n [b] (af b).2 48 (by simp) (by show b.length≤_;omega);rw [← f1',← f2'] at h;exact h)) ?_)
 refine jU 50905090165 ?_
 refine ar (aJ 3 (ow n (aa aL [b] (af b).2).l (aa aL [b] (af b).2).k kind jO jO) ?_)
 refine jU 150500000065 ?_
 refine ar (hZ (i:=3) rfl rfl (by assumption) rfl ((by have h:=hG n (aa (aK kind) (aa aL [b] (af b).2).l (aa aL [b] (af b).2).k).l (aa (aK kind) (aa aL [b] (af b).2).l (aa aL [b] (af b).2).k).k jO m2;rw [hx] at h;exact h)) (.cons cP .nil) rfl rfl ?_)
 rintro _ _ ⟨rfl,rfl⟩
 refine ⟨_,rfl,?_⟩
 refine ak (bD (n:=4) zA rfl fun p6=>?_)
 refine ar (bh 4 (X x.2) ?_ ?_ (hleaf:=hlf _))
 ·exact (fun j hj=>by rcases j with _|_|_|_|j <;> first|exact cZ|omega)
 refine jU 165 ?_
 refine ar (aJ 3 ((by have h:=jH (gs:=gs) n x.1.1 x.1.2 jO;rw [← f3,← f4] at h;exact h)) ?_)
 refine jU 1675 ?_
 refine ar (aJ 3 (ox n (aa aE x.1.1 x.1.2).l (aa aE x.1.1 x.1.2).k jO) ?_)
 refine jU 55000001651 ?_;refine aq (fun h97=>?_) fun h97=>?_
 ·refine cy ?_;refine eL (aV 4) ?_;refine jU 1 ?_
  refine ar (ax 4 ?_)
  refine jU 51 ?_
  refine jR (ii (cX (hres:=bH rfl (bz 4) aG) (hv:=?_)))
  rw [show aR kind fs b=(List.replicate fs.length V4.z,(aW kind fs b).2) by unfold aR;rw [jP],hM2]
  exact cT (ab.agg rfl (fun j hj=>by rcases j with _|_|_|_|j <;> first|exact hz _ jO|omega)) cZ
 refine jU 5010067810 ?_;refine eL (aV 4) ?_
 refine ak (iE rfl rfl (by assumption) (hR x.2 hvl) (.cons (ab.agg rfl (fun j hj=>by rcases j with _|_|_|_|j <;> first|exact cZ|omega)) .nil) rfl rfl ?_)
 rintro _ _ ⟨rfl,rfl⟩
 refine jU 530 ?_;refine aq (fun h100=>?_) fun h100=>?_
 rotate_left
 ·refine jU 6810 ?_;refine eL (aV 4) ?_
  refine ar (ax 4 ?_ (hleaf:=(by simpa only [Nat.zero_add] using hlf x.2)))
  refine jU 51 ?_
  refine jR (cX (hres:=bH rfl (bz 4) aG) (hv:=?_))
  rw [show aR kind fs b=(x.2,0) by unfold aR;rw [jK,if_neg (by rw [hM1];simpa using h100),hM1]]
  exact cT (ab.agg rfl (fun j hj=>by rcases j with _|_|_|_|j <;> first|exact cZ|omega)) ab.nil
 refine iy ?_;refine jI (.rd 0 (.rd 1 (.one 2 (.rd 3 .done)))) ?_;refine MS (aV 4) ?_;refine ig (dy 3) ?_
 refine iL (ax 4 ?_)
 refine jU 8700000400000 ?_
 refine jR (ii (cX (hres:=bH rfl (bz 4) aG) (hv:=?_)))
 rw [show aR kind fs b=(List.replicate fs.length V4.z,4) by unfold aR;rw [jK,if_pos (by rw [hM1];simpa using h100)]]
 exact cT (ab.agg rfl (fun j hj=>by rcases j with _|_|_|_|j <;> first|exact hz _ jO|omega)) cZ
def Iq:CV:=uN 4 159 160 161
theorem AK {gs:List Nat}:bM gs Tryz.prog 85 [] Iq:=by
 refine ai 2 Tryz.func85 fun al w0 F0 St0=>?_;refine cy ?_
 refine ak (bD (n:=4) MH rfl fun p1=>?_)
 refine jU 65 ?_;refine jq (ae (n:=4) rfl MH Pg rfl rfl) ?_
 refine ar (ax 4 ?_)
 refine jU 5 ?_
 refine jR (cX (hres:=aA rfl (bz 4)) (hv:=ab.agg rfl (fun j hj=>by rcases j with _|_|_|_|j <;> first|exact cZ|exact ab.fn0|omega)))
set_option maxHeartbeats 2000000 in
theorem nV {gs:List Nat} [fZ gs] {fR fP fG:FuncId} (hcR:br Tryz.prog fR=true) (hcG:br Tryz.prog fG=true) (kind:Int) (hk:bL kind) (fs:List Fd) (hfl:fs.length≤8) (hok:∀ f ∈ fs,fD f) (X:List V4→Nat→CV) (hlf:∀ vs,(List.map (X vs) (List.range 3)).all fo=true) (hz:∀ j,j<3→ab (fl [au [],.c (.slice none 0 0),.c (.int .i64 0)] j) (X (List.replicate fs.length V4.z) j)) (hR:∀ vs:List V4,vs.length=fs.length→bM gs Tryz.prog fR [.agg 3 (X vs)] (.c (.bool (aQ kind fs vs)))) (hG:∀ n l k,0<l.length∧l.length≤1000→ec l k≤100000→AC gs Tryz.prog fG [dA n l k] [.op 0 (some n) 0] (fun r H'=>r=.agg 3 (X (am fs l k).2)∧H'=[dA n (am fs l k).1.1 (am fs l k).1.2])) (b:List UInt8) (hb:b.length≤90000) :
  bM gs Tryz.prog 95 [uN kind fR fP fG,bu b] (.tup 2 (fl [.agg 3 (X (aR kind fs b).1),.err (aR kind fs b).2])):=by
 have m0:ec [b] (af b).2≤100000:=by
  have:cm [b]=b.length:=by simp [cm]
  unfold ec
  split <;> omega
 obtain ⟨f1,f2⟩:=eF aL rfl [b] (af b).2
 have f1':(aa aL [b] (af b).2).l=an 48 [b] (af b).2:=f1
 have f2':(aa aL [b] (af b).2).k=(ag 48 [b] (af b).2).k:=f2
 obtain ⟨l1,m1⟩:=dP aL (m:=1) ⟨by simp,by simp⟩ m0 jD
 obtain ⟨l2,m2⟩:=dP (aK kind) l1 m1 (by show ¬ (4:Int)=2;decide)
 obtain ⟨_,l3⟩:=jL fs (k:=(aa (aK kind) (aa aL [b] (af b).2).l (aa aL [b] (af b).2).k).k) hok l2.1
 have hvl:=eG fs (aa (aK kind) (aa aL [b] (af b).2).l (aa aL [b] (af b).2).k).l (aa (aK kind) (aa aL [b] (af b).2).l (aa aL [b] (af b).2).k).k
 generalize hx:am fs (aa (aK kind) (aa aL [b] (af b).2).l (aa aL [b] (af b).2).k).l (aa (aK kind) (aa aL [b] (af b).2).l (aa aL [b] (af b).2).k).k=x at *
 obtain ⟨f3,f4⟩:=dK aE rfl x.1.1 x.1.2
 have l4:0<(aa aE x.1.1 x.1.2).l.length∧(aa aE x.1.1 x.1.2).l.length≤1000:=by
  rw [f3]
  obtain ⟨_,_,v3,v4⟩:=gI (l:=x.1.1) (k:=x.1.2) l3.1
  by_cases h0:bc x.1.1 x.1.2=0
  ·have:=v3 h0;omega
  ·rw [v4 h0];omega
 have hM1:(aW kind fs b).1=x.2:=by unfold aW;dsimp only;rw [hx]
 have hM2:(aW kind fs b).2=ke (aa aE x.1.1 x.1.2).l (aa aE x.1.1 x.1.2).k:=by unfold aW;dsimp only;rw [hx]
 have n1:=bX m1
 refine ai 40 Tryz.func95 fun al w0 F0 St0=>?_;refine cy ?_
 refine ak (cE 4 fun p1=>?_)
 refine ak (bD (n:=3) zy rfl fun p2=>?_)
 refine jU 651 ?_
 refine ak (bD (n:=3) zy rfl fun p3=>?_)
 refine jU 165 ?_
 refine ak (su (lX b jO) ?_)
 rintro _ _ ⟨n,rfl,rfl⟩
 refine jU 1651 ?_
 refine ar (aJ 3 ((by have h:=kV (gs:=gs) n [b] (af b).2 48 (by simp) (by show b.length≤_;omega);rw [← f1',← f2'] at h;exact h)) ?_)
 refine jU 50905090165 ?_
 refine ar (aJ 3 (ow n (aa aL [b] (af b).2).l (aa aL [b] (af b).2).k kind jO jO) ?_)
 refine jU 150500000065 ?_
 refine ar (hZ (i:=3) rfl rfl (by assumption) rfl ((by have h:=hG n (aa (aK kind) (aa aL [b] (af b).2).l (aa aL [b] (af b).2).k).l (aa (aK kind) (aa aL [b] (af b).2).l (aa aL [b] (af b).2).k).k jO m2;rw [hx] at h;exact h)) (.cons cP .nil) rfl rfl ?_)
 rintro _ _ ⟨rfl,rfl⟩
 refine ⟨_,rfl,?_⟩
 refine ak (bD (n:=3) zy rfl fun p6=>?_)
 refine ar (bh 3 (X x.2) ?_ ?_ (hleaf:=hlf _))
 ·exact (fun j hj=>by rcases j with _|_|_|j <;> first|exact cZ|omega)
 refine jU 165 ?_
 refine ar (aJ 3 ((by have h:=jH (gs:=gs) n x.1.1 x.1.2 jO;rw [← f3,← f4] at h;exact h)) ?_)
 refine jU 1675 ?_
 refine ar (aJ 3 (ox n (aa aE x.1.1 x.1.2).l (aa aE x.1.1 x.1.2).k jO) ?_)
 refine jU 55000001651 ?_;refine aq (fun h97=>?_) fun h97=>?_
 ·refine cy ?_;refine eL (aV 3) ?_;refine jU 1 ?_
  refine ar (ax 3 ?_)
  refine jU 51 ?_
  refine jR (ii (cX (hres:=bH rfl (bz 3) aG) (hv:=?_)))
  rw [show aR kind fs b=(List.replicate fs.length V4.z,(aW kind fs b).2) by unfold aR;rw [jP],hM2]
  exact cT (ab.agg rfl (fun j hj=>by rcases j with _|_|_|j <;> first|exact hz _ jO|omega)) cZ
 refine jU 5010067810 ?_;refine eL (aV 3) ?_
 refine ak (iE rfl rfl (by assumption) (hR x.2 hvl) (.cons (ab.agg rfl (fun j hj=>by rcases j with _|_|_|j <;> first|exact cZ|omega)) .nil) rfl rfl ?_)
 rintro _ _ ⟨rfl,rfl⟩
 refine jU 530 ?_;refine aq (fun h100=>?_) fun h100=>?_
 rotate_left
 ·refine jU 6810 ?_;refine eL (aV 3) ?_
  refine ar (ax 3 ?_ (hleaf:=(by simpa only [Nat.zero_add] using hlf x.2)))
  refine jU 51 ?_
  refine jR (cX (hres:=bH rfl (bz 3) aG) (hv:=?_))
  rw [show aR kind fs b=(x.2,0) by unfold aR;rw [jK,if_neg (by rw [hM1];simpa using h100),hM1]]
  exact cT (ab.agg rfl (fun j hj=>by rcases j with _|_|_|j <;> first|exact cZ|omega)) ab.nil
 refine iy ?_;refine jI (.rd 0 (.rd 1 (.one 2 (.rd 3 .done)))) ?_;refine MS (aV 3) ?_;refine ig (dy 3) ?_
 refine iL (ax 3 ?_)
 refine jU 8700000400000 ?_
 refine jR (ii (cX (hres:=bH rfl (bz 3) aG) (hv:=?_)))
 rw [show aR kind fs b=(List.replicate fs.length V4.z,4) by unfold aR;rw [jK,if_pos (by rw [hM1];simpa using h100)]]
 exact cT (ab.agg rfl (fun j hj=>by rcases j with _|_|_|j <;> first|exact hz _ jO|omega)) cZ
def zM:CV:=uN 7 162 163 164
theorem uk {gs:List Nat}:bM gs Tryz.prog 87 [] zM:=by
 refine ai 2 Tryz.func87 fun al w0 F0 St0=>?_;refine cy ?_
 refine ak (bD (n:=4) MG rfl fun p1=>?_)
 refine jU 65 ?_;refine jq (ae (n:=4) rfl MG Pf rfl rfl) ?_
 refine ar (ax 4 ?_)
 refine jU 5 ?_
 refine jR (cX (hres:=aA rfl (bz 4)) (hv:=ab.agg rfl (fun j hj=>by rcases j with _|_|_|_|j <;> first|exact cZ|exact ab.fn0|omega)))
set_option maxHeartbeats 2000000 in
theorem pB {gs:List Nat} [fZ gs] {fR fP fG:FuncId} (hcR:br Tryz.prog fR=true) (hcG:br Tryz.prog fG=true) (kind:Int) (hk:bL kind) (fs:List Fd) (hfl:fs.length≤8) (hok:∀ f ∈ fs,fD f) (X:List V4→Nat→CV) (hlf:∀ vs,(List.map (X vs) (List.range 2)).all fo=true) (hz:∀ j,j<2→ab (fl [.c (.slice none 0 0),.c (.slice none 0 0)] j) (X (List.replicate fs.length V4.z) j)) (hR:∀ vs:List V4,vs.length=fs.length→bM gs Tryz.prog fR [.agg 2 (X vs)] (.c (.bool (aQ kind fs vs)))) (hG:∀ n l k,0<l.length∧l.length≤1000→ec l k≤100000→AC gs Tryz.prog fG [dA n l k] [.op 0 (some n) 0] (fun r H'=>r=.agg 2 (X (am fs l k).2)∧H'=[dA n (am fs l k).1.1 (am fs l k).1.2])) (b:List UInt8) (hb:b.length≤90000) :
  bM gs Tryz.prog 96 [uN kind fR fP fG,bu b] (.tup 2 (fl [.agg 2 (X (aR kind fs b).1),.err (aR kind fs b).2])):=by
 have m0:ec [b] (af b).2≤100000:=by
  have:cm [b]=b.length:=by simp [cm]
  unfold ec
  split <;> omega
 obtain ⟨f1,f2⟩:=eF aL rfl [b] (af b).2
 have f1':(aa aL [b] (af b).2).l=an 48 [b] (af b).2:=f1
 have f2':(aa aL [b] (af b).2).k=(ag 48 [b] (af b).2).k:=f2
 obtain ⟨l1,m1⟩:=dP aL (m:=1) ⟨by simp,by simp⟩ m0 jD
 obtain ⟨l2,m2⟩:=dP (aK kind) l1 m1 (by show ¬ (4:Int)=2;decide)
 obtain ⟨_,l3⟩:=jL fs (k:=(aa (aK kind) (aa aL [b] (af b).2).l (aa aL [b] (af b).2).k).k) hok l2.1
 have hvl:=eG fs (aa (aK kind) (aa aL [b] (af b).2).l (aa aL [b] (af b).2).k).l (aa (aK kind) (aa aL [b] (af b).2).l (aa aL [b] (af b).2).k).k
 generalize hx:am fs (aa (aK kind) (aa aL [b] (af b).2).l (aa aL [b] (af b).2).k).l (aa (aK kind) (aa aL [b] (af b).2).l (aa aL [b] (af b).2).k).k=x at *
 obtain ⟨f3,f4⟩:=dK aE rfl x.1.1 x.1.2
 have l4:0<(aa aE x.1.1 x.1.2).l.length∧(aa aE x.1.1 x.1.2).l.length≤1000:=by
  rw [f3]
  obtain ⟨_,_,v3,v4⟩:=gI (l:=x.1.1) (k:=x.1.2) l3.1
  by_cases h0:bc x.1.1 x.1.2=0
  ·have:=v3 h0;omega
  ·rw [v4 h0];omega
 have hM1:(aW kind fs b).1=x.2:=by unfold aW;dsimp only;rw [hx]
 have hM2:(aW kind fs b).2=ke (aa aE x.1.1 x.1.2).l (aa aE x.1.1 x.1.2).k:=by unfold aW;dsimp only;rw [hx]
 have n1:=bX m1
 refine ai 40 Tryz.func96 fun al w0 F0 St0=>?_;refine cy ?_
 refine ak (cE 4 fun p1=>?_)
 refine ak (bD (n:=2) zw rfl fun p2=>?_)
 refine jU 651 ?_
 refine ak (bD (n:=2) zw rfl fun p3=>?_)
 refine jU 165 ?_
 refine ak (su (lX b jO) ?_)
 rintro _ _ ⟨n,rfl,rfl⟩
 refine jU 1651 ?_
 refine ar (aJ 3 ((by have h:=kV (gs:=gs) n [b] (af b).2 48 (by simp) (by show b.length≤_;omega);rw [← f1',← f2'] at h;exact h)) ?_)
 refine jU 50905090165 ?_
 refine ar (aJ 3 (ow n (aa aL [b] (af b).2).l (aa aL [b] (af b).2).k kind jO jO) ?_)
 refine jU 150500000065 ?_
 refine ar (hZ (i:=3) rfl rfl (by assumption) rfl ((by have h:=hG n (aa (aK kind) (aa aL [b] (af b).2).l (aa aL [b] (af b).2).k).l (aa (aK kind) (aa aL [b] (af b).2).l (aa aL [b] (af b).2).k).k jO m2;rw [hx] at h;exact h)) (.cons cP .nil) rfl rfl ?_)
 rintro _ _ ⟨rfl,rfl⟩
 refine ⟨_,rfl,?_⟩
 refine ak (bD (n:=2) zw rfl fun p6=>?_)
 refine ar (bh 2 (X x.2) ?_ ?_ (hleaf:=hlf _))
 ·exact (fun j hj=>by rcases j with _|_|j <;> first|exact cZ|omega)
 refine jU 165 ?_
 refine ar (aJ 3 ((by have h:=jH (gs:=gs) n x.1.1 x.1.2 jO;rw [← f3,← f4] at h;exact h)) ?_)
 refine jU 1675 ?_
 refine ar (aJ 3 (ox n (aa aE x.1.1 x.1.2).l (aa aE x.1.1 x.1.2).k jO) ?_)
 refine jU 55000001651 ?_;refine aq (fun h97=>?_) fun h97=>?_
 ·refine cy ?_;refine eL (aV 2) ?_;refine jU 1 ?_
  refine ar (ax 2 ?_)
  refine jU 51 ?_
  refine jR (ii (cX (hres:=bH rfl (bz 2) aG) (hv:=?_)))
  rw [show aR kind fs b=(List.replicate fs.length V4.z,(aW kind fs b).2) by unfold aR;rw [jP],hM2]
  exact cT (ab.agg rfl (fun j hj=>by rcases j with _|_|j <;> first|exact hz _ jO|omega)) cZ
 refine jU 5010067810 ?_;refine eL (aV 2) ?_
 refine ak (iE rfl rfl (by assumption) (hR x.2 hvl) (.cons (ab.agg rfl (fun j hj=>by rcases j with _|_|j <;> first|exact cZ|omega)) .nil) rfl rfl ?_)
 rintro _ _ ⟨rfl,rfl⟩
 refine jU 530 ?_;refine aq (fun h100=>?_) fun h100=>?_
 rotate_left
 ·refine jU 6810 ?_;refine eL (aV 2) ?_
  refine ar (ax 2 ?_ (hleaf:=(by simpa only [Nat.zero_add] using hlf x.2)))
  refine jU 51 ?_
  refine jR (cX (hres:=bH rfl (bz 2) aG) (hv:=?_))
  rw [show aR kind fs b=(x.2,0) by unfold aR;rw [jK,if_neg (by rw [hM1];simpa using h100),hM1]]
  exact cT (ab.agg rfl (fun j hj=>by rcases j with _|_|j <;> first|exact cZ|omega)) ab.nil
 refine iy ?_;refine jI (.rd 0 (.rd 1 (.one 2 (.rd 3 .done)))) ?_;refine MS (aV 2) ?_;refine ig (dy 3) ?_
 refine iL (ax 2 ?_)
 refine jU 8700000400000 ?_
 refine jR (ii (cX (hres:=bH rfl (bz 2) aG) (hv:=?_)))
 rw [show aR kind fs b=(List.replicate fs.length V4.z,4) by unfold aR;rw [jK,if_pos (by rw [hM1];simpa using h100)]]
 exact cT (ab.agg rfl (fun j hj=>by rcases j with _|_|j <;> first|exact hz _ jO|omega)) cZ
def D1:CV:=uN 6 165 166 167
theorem xA {gs:List Nat}:bM gs Tryz.prog 89 [] D1:=by
 refine ai 2 Tryz.func89 fun al w0 F0 St0=>?_;refine cy ?_
 refine ak (bD (n:=4) MF rfl fun p1=>?_)
 refine jU 65 ?_;refine jq (ae (n:=4) rfl MF Pe rfl rfl) ?_
 refine ar (ax 4 ?_)
 refine jU 5 ?_
 refine jR (cX (hres:=aA rfl (bz 4)) (hv:=ab.agg rfl (fun j hj=>by rcases j with _|_|_|_|j <;> first|exact cZ|exact ab.fn0|omega)))
end
section
open Go.RowKit Cal
theorem yR (vs:List V4) (h:vs.length=aM.length):∃ v0 v1 v2 v3 v4 v5,vs=[v0,v1,v2,v3,v4,v5]:=by
 rcases vs with _|⟨v0,_|⟨v1,_|⟨v2,_|⟨v3,_|⟨v4,_|⟨v5,_|⟨x,vs⟩⟩⟩⟩⟩⟩⟩ <;> first|exact ⟨_,_,_,_,_,_,rfl⟩|(exfalso;simp [aM] at h)
theorem rA {gs:List Nat} [eN gs] [mm gs] (v0 v1 v2 v3 v4 v5:V4) (hn:fE aM [v0,v1,v2,v3,v4,v5]):bM gs Tryz.prog 16 [.agg 8 (lC [v0,v1,v2,v3,v4,v5])] (.tup 2 (fl [bu (if aQ 2 aM [v0,v1,v2,v3,v4,v5]=true then tF 2 aM [v0,v1,v2,v3,v4,v5] else []),.err (if aQ 2 aM [v0,v1,v2,v3,v4,v5]=true then 0 else 4)])):=by
 have hk:bL 2:=by unfold bL;decide
 have hg:aQ 2 aM [v0,v1,v2,v3,v4,v5]=true→eY aM [v0,v1,v2,v3,v4,v5]:=fun h=>by
  unfold aQ at h
  rw [Bool.and_eq_true] at h
  exact om hn h.1
 have hB:=tE (gs:=gs) (fR:=141) (fP:=142) (fG:=144) (by kernel_rfl) (by kernel_rfl) 2 hk (lC [v0,v1,v2,v3,v4,v5]) (aQ 2 aM [v0,v1,v2,v3,v4,v5]) (mI aM [v0,v1,v2,v3,v4,v5] (jj (vE 2) (jj (w1 48) GJ))) (mF v0 v1 v2 v3 v4 v5) (fun h n=>Cm n (oh hk) jD v0 v1 v2 v3 v4 v5 (hg h)) (fun h=>fX (tY dJ (hg h) (oh hk)) jD) (fun h=>by have:=fX (D3 hk dJ (hg h)) jD;exact this)
 have e1:(if aQ 2 aM [v0,v1,v2,v3,v4,v5]=true then pH (db (mI aM [v0,v1,v2,v3,v4,v5] (jj (vE 2) (jj (w1 48) GJ)))) else [])=if aQ 2 aM [v0,v1,v2,v3,v4,v5]=true then tF 2 aM [v0,v1,v2,v3,v4,v5] else []:=by
  split
  ·exact (rZ hk dJ jD (hg ‹_›)).2
  ·rfl
 have e2:(if aQ 2 aM [v0,v1,v2,v3,v4,v5]=true then iF (db (mI aM [v0,v1,v2,v3,v4,v5] (jj (vE 2) (jj (w1 48) GJ)))) else 4)=if aQ 2 aM [v0,v1,v2,v3,v4,v5]=true then 0 else 4:=by
  split
  ·exact (rZ hk dJ jD (hg ‹_›)).1
  ·rfl
 rw [e1,e2] at hB
 refine ai 9 Tryz.func16 fun al w0 F0 St0=>?_;refine cy ?_
 refine ak (cE 8 fun p1=>?_)
 refine jU 7511 ?_;refine ff (.rd 1 (.one 0 (.one 2 (.rd 3 (.rd 4 (.rd 5 (.rd 6 .done))))))) ?_;refine Ki (aV 8) ?_
 refine kO (ap vX ?_)
 refine kO (ap hB ?_ (ho:=rfl) (he:=(.cons (se rfl cZ) (.cons (se rfl (ab.agg rfl (fun j hj=>by rcases j with _|_|_|_|_|_|_|_|j <;> exact cZ))) .nil))))
 refine bV Qo ?_;refine bV Qo ?_;refine jU 8807070 ?_
 refine jR (cX (hv:=cZ))
theorem An {gs:List Nat} [eN gs] [mm gs] (b:List UInt8) (hb:b.length≤90000):bM gs Tryz.prog 20 [bu b] (.tup 2 (fl [.agg 8 (lC (aR 2 aM b).1),.err (aR 2 aM b).2])):=by
 have hk:bL 2:=by unfold bL;decide
 have hB:=nX (gs:=gs) (fR:=141) (fP:=142) (fG:=144) (by kernel_rfl) (by kernel_rfl) 2 hk aM jD dJ lC (fun _=>rfl) (fun j hj=>by rcases j with _|_|_|_|_|_|_|_|j <;> first|exact cZ|exact cN) (fun vs hv=>by obtain ⟨v0,v1,v2,v3,v4,v5,rfl⟩:=yR vs hv;exact mF v0 v1 v2 v3 v4 v5) (fun n l k hl hm=>vt n l k hl hm) b hb
 refine ai 9 Tryz.func20 fun al w0 F0 St0=>?_;refine cy ?_
 refine ak (bD (n:=8) wm rfl fun p1=>?_)
 refine jU 651 ?_
 refine ak (ap vX ?_)
 refine jU 1 ?_
 refine ak (ap hB ?_)
 refine jU 900900 ?_
 refine ar (bh 8 (lC (aR 2 aM b).1) ?_ ?_)
 ·exact (fun j hj=>by rcases j with _|_|_|_|_|_|_|_|j <;> first|exact cZ|omega)
 refine jU 51 ?_
 refine jR (cX (hres:=bH rfl (bz 8) aG) (hv:=cT (ab.agg rfl (fun j hj=>by rcases j with _|_|_|_|_|_|_|_|j <;> exact cZ)) cZ))
theorem yE {gs:List Nat} [eN gs] [mm gs] (b:List UInt8) (hb:b.length≤90000):bM gs Tryz.prog 83 [JP,bu b] (.c (.bool (decide ((aR 2 aM b).2=0)))):=by
 have hk:bL 2:=by unfold bL;decide
 have hB:=nX (gs:=gs) (fR:=141) (fP:=142) (fG:=144) (by kernel_rfl) (by kernel_rfl) 2 hk aM jD dJ lC (fun _=>rfl) (fun j hj=>by rcases j with _|_|_|_|_|_|_|_|j <;> first|exact cZ|exact cN) (fun vs hv=>by obtain ⟨v0,v1,v2,v3,v4,v5,rfl⟩:=yR vs hv;exact mF v0 v1 v2 v3 v4 v5) (fun n l k hl hm=>vt n l k hl hm) b hb
 refine ai 15 Tryz.func83 fun al w0 F0 St0=>?_;refine cy ?_
 refine ak (cE 4 fun p1=>?_)
 refine jU 651 ?_;refine eL (aV 4) ?_;refine jU 1 ?_
 refine ak (ap hB ?_)
 refine jU 9009001 ?_
 refine ak (bD (n:=8) wm rfl fun p2=>?_)
 refine ar (ax 8 ?_)
 refine jU 80007000515000001651 ?_;refine cB ?_
 rfl
theorem yS (vs:List V4) (h:vs.length=bU.length):∃ v0 v1 v2 v3 v4 v5 v6,vs=[v0,v1,v2,v3,v4,v5,v6]:=by
 rcases vs with _|⟨v0,_|⟨v1,_|⟨v2,_|⟨v3,_|⟨v4,_|⟨v5,_|⟨v6,_|⟨x,vs⟩⟩⟩⟩⟩⟩⟩⟩ <;> first|exact ⟨_,_,_,_,_,_,_,rfl⟩|(exfalso;simp [bU] at h)
theorem Ao {gs:List Nat} [eN gs] [mm gs] (b:List UInt8) (hb:b.length≤90000):bM gs Tryz.prog 25 [bu b] (.tup 2 (fl [.agg 7 (rE (aR 3 bU b).1),.err (aR 3 bU b).2])):=by
 have hk:bL 3:=by unfold bL;decide
 have hB:=nY (gs:=gs) (fR:=147) (fP:=148) (fG:=149) (by kernel_rfl) (by kernel_rfl) 3 hk bU jD ix rE (fun _=>rfl) (fun j hj=>by rcases j with _|_|_|_|_|_|_|j <;> first|exact cZ|exact cN) (fun vs hv=>by obtain ⟨v0,v1,v2,v3,v4,v5,v6,rfl⟩:=yS vs hv;exact qE v0 v1 v2 v3 v4 v5 v6) (fun n l k hl hm=>vu n l k hl hm) b hb
 refine ai 9 Tryz.func25 fun al w0 F0 St0=>?_;refine cy ?_
 refine ak (bD (n:=7) zB rfl fun p1=>?_)
 refine jU 651 ?_
 refine ak (ap oB ?_)
 refine jU 1 ?_
 refine ak (ap hB ?_)
 refine jU 900900 ?_
 refine ar (bh 7 (rE (aR 3 bU b).1) ?_ ?_)
 ·exact (fun j hj=>by rcases j with _|_|_|_|_|_|_|j <;> first|exact cZ|omega)
 refine jU 51 ?_
 refine jR (cX (hres:=bH rfl (bz 7) aG) (hv:=cT (ab.agg rfl (fun j hj=>by rcases j with _|_|_|_|_|_|_|j <;> exact cZ)) cZ))
theorem yF {gs:List Nat} [eN gs] [mm gs] (b:List UInt8) (hb:b.length≤90000):bM gs Tryz.prog 84 [rD,bu b] (.c (.bool (decide ((aR 3 bU b).2=0)))):=by
 have hk:bL 3:=by unfold bL;decide
 have hB:=nY (gs:=gs) (fR:=147) (fP:=148) (fG:=149) (by kernel_rfl) (by kernel_rfl) 3 hk bU jD ix rE (fun _=>rfl) (fun j hj=>by rcases j with _|_|_|_|_|_|_|j <;> first|exact cZ|exact cN) (fun vs hv=>by obtain ⟨v0,v1,v2,v3,v4,v5,v6,rfl⟩:=yS vs hv;exact qE v0 v1 v2 v3 v4 v5 v6) (fun n l k hl hm=>vu n l k hl hm) b hb
 refine ai 15 Tryz.func84 fun al w0 F0 St0=>?_;refine cy ?_
 refine ak (cE 4 fun p1=>?_)
 refine jU 651 ?_;refine eL (aV 4) ?_;refine jU 1 ?_
 refine ak (ap hB ?_)
 refine jU 9009001 ?_
 refine ak (bD (n:=7) zB rfl fun p2=>?_)
 refine ar (ax 7 ?_)
 refine jU 80007000515000001651 ?_;refine cB ?_
 rfl
theorem yQ (vs:List V4) (h:vs.length=cg.length):∃ v0 v1 v2 v3,vs=[v0,v1,v2,v3]:=by
 rcases vs with _|⟨v0,_|⟨v1,_|⟨v2,_|⟨v3,_|⟨x,vs⟩⟩⟩⟩⟩ <;> first|exact ⟨_,_,_,_,rfl⟩|(exfalso;simp [cg] at h)
theorem Aj {gs:List Nat} [eN gs] [mm gs] (b:List UInt8) (hb:b.length≤90000):bM gs Tryz.prog 42 [bu b] (.tup 2 (fl [.agg 4 (qP (aR 4 cg b).1),.err (aR 4 cg b).2])):=by
 have hk:bL 4:=by unfold bL;decide
 have hB:=nW (gs:=gs) (fR:=159) (fP:=160) (fG:=161) (by kernel_rfl) (by kernel_rfl) 4 hk cg jD lu qP (fun _=>rfl) (fun j hj=>by rcases j with _|_|_|_|j <;> exact cZ) (fun vs hv=>by obtain ⟨v0,v1,v2,v3,rfl⟩:=yQ vs hv;exact qD v0 v1 v2 v3) (fun n l k hl hm=>vr n l k hl hm) b hb
 refine ai 9 Tryz.func42 fun al w0 F0 St0=>?_;refine cy ?_
 refine ak (bD (n:=4) zA rfl fun p1=>?_)
 refine jU 651 ?_
 refine ak (ap AK ?_)
 refine jU 1 ?_
 refine ak (ap hB ?_)
 refine jU 900900 ?_
 refine ar (bh 4 (qP (aR 4 cg b).1) ?_ ?_)
 ·exact (fun j hj=>by rcases j with _|_|_|_|j <;> first|exact cZ|omega)
 refine jU 51 ?_
 refine jR (cX (hres:=bH rfl (bz 4) aG) (hv:=cT (ab.agg rfl (fun j hj=>by rcases j with _|_|_|_|j <;> exact cZ)) cZ))
theorem yD {gs:List Nat} [eN gs] [mm gs] (b:List UInt8) (hb:b.length≤90000):bM gs Tryz.prog 86 [Iq,bu b] (.c (.bool (decide ((aR 4 cg b).2=0)))):=by
 have hk:bL 4:=by unfold bL;decide
 have hB:=nW (gs:=gs) (fR:=159) (fP:=160) (fG:=161) (by kernel_rfl) (by kernel_rfl) 4 hk cg jD lu qP (fun _=>rfl) (fun j hj=>by rcases j with _|_|_|_|j <;> exact cZ) (fun vs hv=>by obtain ⟨v0,v1,v2,v3,rfl⟩:=yQ vs hv;exact qD v0 v1 v2 v3) (fun n l k hl hm=>vr n l k hl hm) b hb
 refine ai 15 Tryz.func86 fun al w0 F0 St0=>?_;refine cy ?_
 refine ak (cE 4 fun p1=>?_)
 refine jU 651 ?_;refine eL (aV 4) ?_;refine jU 1 ?_
 refine ak (ap hB ?_)
 refine jU 9009001 ?_
 refine ak (bD (n:=4) zA rfl fun p2=>?_)
 refine ar (ax 4 ?_)
 refine jU 80007000515000001651 ?_;refine cB ?_
 rfl
theorem yO (vs:List V4) (h:vs.length=co.length):∃ v0 v1 v2,vs=[v0,v1,v2]:=by
 rcases vs with _|⟨v0,_|⟨v1,_|⟨v2,_|⟨x,vs⟩⟩⟩⟩ <;> first|exact ⟨_,_,_,rfl⟩|(exfalso;simp [co] at h)
theorem Ai {gs:List Nat} [eN gs] [mm gs] (b:List UInt8) (hb:b.length≤90000):bM gs Tryz.prog 43 [bu b] (.tup 2 (fl [.agg 3 (qo (aR 7 co b).1),.err (aR 7 co b).2])):=by
 have hk:bL 7:=by unfold bL;decide
 have hB:=nV (gs:=gs) (fR:=162) (fP:=163) (fG:=164) (by kernel_rfl) (by kernel_rfl) 7 hk co jD mK qo (fun _=>rfl) (fun j hj=>by rcases j with _|_|_|j <;> first|exact cZ|exact cN) (fun vs hv=>by obtain ⟨v0,v1,v2,rfl⟩:=yO vs hv;exact qC v0 v1 v2) (fun n l k hl hm=>vq n l k hl hm) b hb
 refine ai 9 Tryz.func43 fun al w0 F0 St0=>?_;refine cy ?_
 refine ak (bD (n:=3) zy rfl fun p1=>?_)
 refine jU 651 ?_
 refine ak (ap uk ?_)
 refine jU 1 ?_
 refine ak (ap hB ?_)
 refine jU 900900 ?_
 refine ar (bh 3 (qo (aR 7 co b).1) ?_ ?_)
 ·exact (fun j hj=>by rcases j with _|_|_|j <;> first|exact cZ|omega)
 refine jU 51 ?_
 refine jR (cX (hres:=bH rfl (bz 3) aG) (hv:=cT (ab.agg rfl (fun j hj=>by rcases j with _|_|_|j <;> exact cZ)) cZ))
theorem yC {gs:List Nat} [eN gs] [mm gs] (b:List UInt8) (hb:b.length≤90000):bM gs Tryz.prog 88 [zM,bu b] (.c (.bool (decide ((aR 7 co b).2=0)))):=by
 have hk:bL 7:=by unfold bL;decide
 have hB:=nV (gs:=gs) (fR:=162) (fP:=163) (fG:=164) (by kernel_rfl) (by kernel_rfl) 7 hk co jD mK qo (fun _=>rfl) (fun j hj=>by rcases j with _|_|_|j <;> first|exact cZ|exact cN) (fun vs hv=>by obtain ⟨v0,v1,v2,rfl⟩:=yO vs hv;exact qC v0 v1 v2) (fun n l k hl hm=>vq n l k hl hm) b hb
 refine ai 15 Tryz.func88 fun al w0 F0 St0=>?_;refine cy ?_
 refine ak (cE 4 fun p1=>?_)
 refine jU 651 ?_;refine eL (aV 4) ?_;refine jU 1 ?_
 refine ak (ap hB ?_)
 refine jU 9009001 ?_
 refine ak (bD (n:=3) zy rfl fun p2=>?_)
 refine ar (ax 3 ?_)
 refine jU 80007000515000001651 ?_;refine cB ?_
 rfl
theorem CK (vs:List V4) (h:vs.length=dN.length):∃ v0 v1,vs=[v0,v1]:=by
 rcases vs with _|⟨v0,_|⟨v1,_|⟨x,vs⟩⟩⟩ <;> first|exact ⟨_,_,rfl⟩|(exfalso;simp [dN] at h)
theorem Ca {gs:List Nat} [eN gs] [mm gs] (b:List UInt8) (hb:b.length≤90000):bM gs Tryz.prog 44 [bu b] (.tup 2 (fl [.agg 2 (yZ (aR 6 dN b).1),.err (aR 6 dN b).2])):=by
 have hk:bL 6:=by unfold bL;decide
 have hB:=pB (gs:=gs) (fR:=165) (fP:=166) (fG:=167) (by kernel_rfl) (by kernel_rfl) 6 hk dN jD r9 yZ (fun _=>rfl) (fun j hj=>by rcases j with _|_|j <;> first|exact cZ|exact cN) (fun vs hv=>by obtain ⟨v0,v1,rfl⟩:=CK vs hv;exact sU v0 v1) (fun n l k hl hm=>xH n l k hl hm) b hb
 refine ai 9 Tryz.func44 fun al w0 F0 St0=>?_;refine cy ?_
 refine ak (bD (n:=2) zw rfl fun p1=>?_)
 refine jU 651 ?_
 refine ak (ap xA ?_)
 refine jU 1 ?_
 refine ak (ap hB ?_)
 refine jU 900900 ?_
 refine ar (bh 2 (yZ (aR 6 dN b).1) ?_ ?_)
 ·exact (fun j hj=>by rcases j with _|_|j <;> first|exact cZ|omega)
 refine jU 51 ?_
 refine jR (cX (hres:=bH rfl (bz 2) aG) (hv:=cT (ab.agg rfl (fun j hj=>by rcases j with _|_|j <;> exact cZ)) cZ))
theorem Ag {gs:List Nat} [eN gs] [mm gs] (b:List UInt8) (hb:b.length≤90000):bM gs Tryz.prog 90 [D1,bu b] (.c (.bool (decide ((aR 6 dN b).2=0)))):=by
 have hk:bL 6:=by unfold bL;decide
 have hB:=pB (gs:=gs) (fR:=165) (fP:=166) (fG:=167) (by kernel_rfl) (by kernel_rfl) 6 hk dN jD r9 yZ (fun _=>rfl) (fun j hj=>by rcases j with _|_|j <;> first|exact cZ|exact cN) (fun vs hv=>by obtain ⟨v0,v1,rfl⟩:=CK vs hv;exact sU v0 v1) (fun n l k hl hm=>xH n l k hl hm) b hb
 refine ai 15 Tryz.func90 fun al w0 F0 St0=>?_;refine cy ?_
 refine ak (cE 4 fun p1=>?_)
 refine jU 651 ?_;refine eL (aV 4) ?_;refine jU 1 ?_
 refine ak (ap hB ?_)
 refine jU 9009001 ?_
 refine ak (bD (n:=2) zw rfl fun p2=>?_)
 refine ar (ax 2 ?_)
 refine jU 80007000515000001651 ?_;refine cB ?_
 rfl
theorem FM {gs:List Nat} [eN gs] [mm gs] (b:List UInt8) (hb:b.length≤90000):bM gs Tryz.prog 33 [bu b] (.c (.int .i64 (nr b))):=by
 refine ai 23 Tryz.func33 fun al w0 F0 St0=>?_;refine jU 6207516 ?_
 refine ak (ap vX ?_)
 refine jU 1 ?_
 refine ak (ap (yE b hb) ?_)
 refine jU 51 ?_;refine aq (fun h257=>?_) fun h257=>?_
 ·refine jU 8000300050007000516 ?_;refine cI ?_
  unfold nr
  (simp_all;done)
 refine cy ?_
 refine ak (ap oB ?_)
 refine jU 1 ?_
 refine ak (ap (yF b hb) ?_)
 refine jU 51 ?_;refine aq (fun h259=>?_) fun h259=>?_
 ·refine jU 8000300050007000516 ?_;refine cI ?_
  unfold nr
  (simp_all;done)
 refine cy ?_
 refine ak (ap AK ?_)
 refine jU 1 ?_
 refine ak (ap (yD b hb) ?_)
 refine jU 51 ?_;refine aq (fun h261=>?_) fun h261=>?_
 ·refine jU 8000300050007000516 ?_;refine cI ?_
  unfold nr
  (simp_all;done)
 refine cy ?_
 refine ak (ap uk ?_)
 refine jU 1 ?_
 refine ak (ap (yC b hb) ?_)
 refine jU 51 ?_;refine aq (fun h263=>?_) fun h263=>?_
 ·refine jU 8000300050007000516 ?_;refine cI ?_
  unfold nr
  (simp_all;done)
 refine cy ?_
 refine ak (ap xA ?_)
 refine jU 1 ?_
 refine ak (ap (Ag b hb) ?_)
 refine jU 51 ?_;refine aq (fun h265=>?_) fun h265=>?_
 ·refine jU 8000300050007000516 ?_;refine cI ?_
  unfold nr
  (simp_all;done)
 refine jU 80007000516840010 ?_;refine cI ?_
 unfold nr
 (simp_all;done)
end
section
open Go.RowKit Cal
set_option maxHeartbeats 1000000 in
theorem wU {gs:List Nat} (a:AA) (b:List UInt8) (hF:a.kind=3∨a.kind=4∨a.kind=6∨a.kind=7∨a.kind=9) (hb:b.length≤1000000):AC gs Tryz.prog 151 [] [J7 a,bu b] (iJ a b):=by
 refine ai 126 Tryz.func151 fun al w0 F0 St0=>?_;refine cy ?_
 refine ak (cE 4 fun p1=>?_)
 refine ak (bD (n:=5) cK rfl fun p2=>?_)
 refine jU 5126720550906751 ?_;refine aq (fun h246=>?_) fun h246=>?_
 ·refine jU 169000810 ?_
  refine ak (ap (wZ b) ?_)
  refine jU 121675119009001 ?_;refine ay 26 (fun g248=>?_) fun g248=>?_
  rotate_left
  ·refine jU 1681030055004444444444 ?_;refine jq (ae (n:=5) rfl cK dL rfl rfl) ?_;refine jU 1 ?_
   refine ar (ax 5 ?_)
   refine jU 30005000700051 ?_
   have hs:=said_34 (a:=a) jO b
   have hq:iJ a b (.tup 2 (fl [jY (vN (bT b).1),.c (.int .i64 ((aI b a.least a.most).2:Nat))])) []:=⟨⟨_,by rw [hs],fun h0=>by rw [hs] at h0 ⊢;simp only;rw [jA h0]⟩,rfl⟩
   exact bo (.inl rfl) [] jD rfl (bH rfl (bz 5) aG) (cT (ab.agg rfl (fun j hj=>by rcases j with _|_|_|_|_|j <;> first|exact cZ|exact cN|omega)) (cI (by unfold aI;(rw [jP];done)))) hq
  refine jU 125010001 ?_;refine ay 31 (fun g248_2=>?_) fun g248_2=>?_
  ·refine jU 16851200900051000000001000000004444 ?_;refine jq (ae (n:=5) rfl cK dL rfl rfl) ?_;refine jU 1 ?_
   refine ar (ax 5 ?_)
   refine jU 30005000700051 ?_
   have hs:=said_34 (a:=a) jO b
   have hq:iJ a b (.tup 2 (fl [jY (vN (bT b).1),.c (.int .i64 ((aI b a.least a.most).2:Nat))])) []:=⟨⟨_,by rw [hs],fun h0=>by rw [hs] at h0 ⊢;simp only;rw [jA h0]⟩,rfl⟩
   exact bo (.inl rfl) [] jD rfl (bH rfl (bz 5) aG) (cT (ab.agg rfl (fun j hj=>by rcases j with _|_|_|_|_|j <;> first|exact cZ|exact cN|omega)) (cI (by unfold aI;(rw [jK,jP];rfl)))) hq
  refine jU 510000000050025050000001 ?_;refine aq (fun h248=>?_) fun h248=>?_
  rotate_left
  ·refine jU 16810 ?_;refine jq (ae (n:=5) rfl cK dL rfl rfl) ?_;refine jU 1 ?_
   refine ar (ax 5 ?_)
   refine jU 30005000700051 ?_
   have hs:=said_34 (a:=a) jO b
   have hq:iJ a b (.tup 2 (fl [jY (vN (bT b).1),.c (.int .i64 ((aI b a.least a.most).2:Nat))])) []:=⟨⟨_,by rw [hs],fun h0=>by rw [hs] at h0 ⊢;simp only;rw [jA h0]⟩,rfl⟩
   exact bo (.inl rfl) [] jD rfl (bH rfl (bz 5) aG) (cT (ab.agg rfl (fun j hj=>by rcases j with _|_|_|_|_|j <;> first|exact cZ|exact cN|omega)) (cI (by unfold aI;(rw [jK,jK];simp only;omega)))) hq
  refine jU 16851200 ?_;refine jq (ae (n:=5) rfl cK dL rfl rfl) ?_;refine jU 1 ?_
  refine ar (ax 5 ?_)
  refine jU 30005000700051 ?_
  have hs:=said_34 (a:=a) jO b
  have hq:iJ a b (.tup 2 (fl [jY (vN (bT b).1),.c (.int .i64 ((aI b a.least a.most).2:Nat))])) []:=⟨⟨_,by rw [hs],fun h0=>by rw [hs] at h0 ⊢;simp only;rw [jA h0]⟩,rfl⟩
  exact bo (.inl rfl) [] jD rfl (bH rfl (bz 5) aG) (cT (ab.agg rfl (fun j hj=>by rcases j with _|_|_|_|_|j <;> first|exact cZ|exact cN|omega)) (cI (by unfold aI;(rw [jK,jP];rfl)))) hq
 refine jU 8512200 ?_;refine aq (fun h246_2=>?_) fun h246_2=>?_
 ·refine jU 16 ?_
  refine ak (ap (wZ b) ?_)
  refine jU 121675119009001 ?_;refine ay 26 (fun g248=>?_) fun g248=>?_
  rotate_left
  ·refine jU 1681030055004444444444 ?_;refine jq (ae (n:=5) rfl cK dL rfl rfl) ?_;refine jU 1 ?_
   refine ar (ax 5 ?_)
   refine jU 30005000700051 ?_
   have hs:=said_34 (a:=a) jO b
   have hq:iJ a b (.tup 2 (fl [jY (vN (bT b).1),.c (.int .i64 ((aI b a.least a.most).2:Nat))])) []:=⟨⟨_,by rw [hs],fun h0=>by rw [hs] at h0 ⊢;simp only;rw [jA h0]⟩,rfl⟩
   exact bo (.inl rfl) [] jD rfl (bH rfl (bz 5) aG) (cT (ab.agg rfl (fun j hj=>by rcases j with _|_|_|_|_|j <;> first|exact cZ|exact cN|omega)) (cI (by unfold aI;(rw [jP];done)))) hq
  refine jU 125010001 ?_;refine ay 31 (fun g248_2=>?_) fun g248_2=>?_
  ·refine jU 16851200900051000000001000000004444 ?_;refine jq (ae (n:=5) rfl cK dL rfl rfl) ?_;refine jU 1 ?_
   refine ar (ax 5 ?_)
   refine jU 30005000700051 ?_
   have hs:=said_34 (a:=a) jO b
   have hq:iJ a b (.tup 2 (fl [jY (vN (bT b).1),.c (.int .i64 ((aI b a.least a.most).2:Nat))])) []:=⟨⟨_,by rw [hs],fun h0=>by rw [hs] at h0 ⊢;simp only;rw [jA h0]⟩,rfl⟩
   exact bo (.inl rfl) [] jD rfl (bH rfl (bz 5) aG) (cT (ab.agg rfl (fun j hj=>by rcases j with _|_|_|_|_|j <;> first|exact cZ|exact cN|omega)) (cI (by unfold aI;(rw [jK,jP];rfl)))) hq
  refine jU 510000000050025050000001 ?_;refine aq (fun h248=>?_) fun h248=>?_
  rotate_left
  ·refine jU 16810 ?_;refine jq (ae (n:=5) rfl cK dL rfl rfl) ?_;refine jU 1 ?_
   refine ar (ax 5 ?_)
   refine jU 30005000700051 ?_
   have hs:=said_34 (a:=a) jO b
   have hq:iJ a b (.tup 2 (fl [jY (vN (bT b).1),.c (.int .i64 ((aI b a.least a.most).2:Nat))])) []:=⟨⟨_,by rw [hs],fun h0=>by rw [hs] at h0 ⊢;simp only;rw [jA h0]⟩,rfl⟩
   exact bo (.inl rfl) [] jD rfl (bH rfl (bz 5) aG) (cT (ab.agg rfl (fun j hj=>by rcases j with _|_|_|_|_|j <;> first|exact cZ|exact cN|omega)) (cI (by unfold aI;(rw [jK,jK];simp only;omega)))) hq
  refine jU 16851200 ?_;refine jq (ae (n:=5) rfl cK dL rfl rfl) ?_;refine jU 1 ?_
  refine ar (ax 5 ?_)
  refine jU 30005000700051 ?_
  have hs:=said_34 (a:=a) jO b
  have hq:iJ a b (.tup 2 (fl [jY (vN (bT b).1),.c (.int .i64 ((aI b a.least a.most).2:Nat))])) []:=⟨⟨_,by rw [hs],fun h0=>by rw [hs] at h0 ⊢;simp only;rw [jA h0]⟩,rfl⟩
  exact bo (.inl rfl) [] jD rfl (bH rfl (bz 5) aG) (cT (ab.agg rfl (fun j hj=>by rcases j with _|_|_|_|_|j <;> first|exact cZ|exact cN|omega)) (cI (by unfold aI;(rw [jK,jP];rfl)))) hq
 refine jU 5126 ?_;refine aq (fun h252=>?_) fun h252=>?_
 ·exfalso;omega
 refine jU 5126 ?_;refine aq (fun h260=>?_) fun h260=>?_
 ·refine jU 525010003167 ?_;refine aq (fun h261=>?_) fun h261=>?_
  ·refine cy ?_;refine jq (ae (n:=5) rfl cK dL rfl rfl) ?_
   refine ar (ax 5 ?_)
   refine jU 300050003000700051 ?_
   have hs:saidM a b=(vB [],2):=by unfold saidM;rw [jK,jK,jK,jP];unfold jF;rw [jP]
   have hq:iJ a b (.tup 2 (fl [jY (VV.none),.c (.int .i64 ((2:Nat):Int))])) []:=⟨⟨_,by rw [hs],fun h0=>by (rw [hs] at h0;exact absurd h0 jD)⟩,rfl⟩
   exact bo (.inl rfl) [] jD rfl (bH rfl (bz 5) aG) (cT (ab.agg rfl (fun j hj=>by rcases j with _|_|_|_|_|j <;> first|exact cZ|exact cN|omega)) (by exact cZ)) hq
  refine jU 525050000003167810 ?_;refine aq (fun h264=>?_) fun h264=>?_
  ·refine cy ?_;refine jq (ae (n:=5) rfl cK dL rfl rfl) ?_
   refine ar (ax 5 ?_)
   refine jU 300050003000700051 ?_
   have hs:saidM a b=(vB [],3):=by unfold saidM;rw [jK,jK,jK,jP];unfold jF;rw [jK,jP]
   have hq:iJ a b (.tup 2 (fl [jY (VV.none),.c (.int .i64 ((3:Nat):Int))])) []:=⟨⟨_,by rw [hs],fun h0=>by (rw [hs] at h0;exact absurd h0 jD)⟩,rfl⟩
   exact bo (.inl rfl) [] jD rfl (bH rfl (bz 5) aG) (cT (ab.agg rfl (fun j hj=>by rcases j with _|_|_|_|_|j <;> first|exact cZ|exact cN|omega)) (by exact cZ)) hq
  refine jU 16810 ?_;refine jq (ae (n:=5) rfl cK dL rfl rfl) ?_
  refine ar (ax 5 ?_)
  refine jU 30005000700051 ?_
  have hs:saidM a b=(vB b,0):=by unfold saidM;rw [jK,jK,jK,jP];unfold jF;rw [jK,jK]
  have hq:iJ a b (.tup 2 (fl [jY (vB b),.c (.int .i64 ((0:Nat):Int))])) []:=⟨⟨_,by rw [hs],fun h0=>by (rw [hs])⟩,rfl⟩
  exact bo (.inl rfl) [] jD rfl (bH rfl (bz 5) aG) (cT (ab.agg rfl (fun j hj=>by rcases j with _|_|_|_|_|j <;> first|exact cZ|omega)) (by exact cZ)) hq
 refine jU 5126 ?_;refine aq (fun h268=>?_) fun h268=>?_
 ·refine iy ?_;refine py 8 (.rd 0 (.rd 1 (.rd 2 (.rd 3 (.rd 4 (.rd 5 (.rd 6 (.one 7 .done)))))))) ?_;refine jU 3000000070 ?_;refine bV (ae (n:=5) rfl cK dL rfl rfl) ?_;refine jU 3000000070 ?_;refine bV (da 3 1 false) ?_;refine Ki mS ?_
  refine kO (ap (kz b a.most jO) ?_)
  refine BO ?_
  show cV _ _ _ _ _ _
  refine ar (ax 5 ?_)
  refine jU 300050007000851 ?_
  have hs:saidM a b=(vT (if aN b a.most=0 then b else []),aN b a.most):=by unfold saidM;rw [jK,jK,jK,jK,jP]
  have hq:iJ a b (.tup 2 (fl [jY (vT b),.c (.int .i64 ((aN b a.most:Nat):Int))])) []:=⟨⟨_,by rw [hs],fun h0=>by rw [hs] at h0 ⊢;rw [if_pos h0]⟩,rfl⟩
  exact bo (.inl rfl) [] jD rfl (bH rfl (bz 5) aG) (cT (ab.agg rfl (fun j hj=>by rcases j with _|_|_|_|_|j <;> first|exact cZ|exact cN|omega)) cZ) hq
 refine jU 5126 ?_;refine aq (fun h270=>?_) fun h270=>?_
 ·exfalso;omega
 refine jU 5126 ?_;refine aq (fun h276=>?_) fun h276=>?_
 rotate_left
 ·exfalso;omega
 refine jU 16 ?_
 refine ak (ap (KZ b) ?_)
 refine jU 165119009001 ?_;refine jq (ae (n:=5) rfl cK dL rfl rfl) ?_;refine jU 1 ?_
 refine ar (ax 5 ?_)
 refine jU 30005000700051 ?_
 have hs:saidM a b=(vN (gJ b),gV b):=by unfold saidM;rw [jK,jK,jK,jK,jK,jK,jP]
 have hq:iJ a b (.tup 2 (fl [jY (vN (gJ b)),.c (.int .i64 ((gV b:Nat):Int))])) []:=⟨⟨_,by rw [hs],fun h0=>by rw [hs]⟩,rfl⟩
 exact bo (.inl rfl) [] jD rfl (bH rfl (bz 5) aG) (cT (ab.agg rfl (fun j hj=>by rcases j with _|_|_|_|_|j <;> first|exact cZ|exact cN|omega)) cZ) hq
set_option maxHeartbeats 1000000 in
theorem w9 {gs:List Nat} (v:VV) (hv:OC v) (hF:v.kind=3∨v.kind=4∨v.kind=6∨v.kind=7∨v.kind=9):AC gs Tryz.prog 157 [] [jY v] (En v):=by
 have hvt:=hv.t
 have hvn:=hv.n
 refine ai 77 Tryz.func157 fun al w0 F0 St0=>?_;refine cy ?_
 refine ak (cE 5 fun p1=>?_)
 refine jU 51262055090675111 ?_;refine aq (fun h31=>?_) fun h31=>?_
 ·refine jU 501006 ?_
  refine ak (ap (wV v.n hv.n.1 hv.n.2) ?_)
  refine jU 3000500070005111 ?_
  exact bo (.inl rfl) [] jD rfl (er rfl aG aG aG) cZ (ny (by unfold aH;rw [jP]) (fun _=>rfl))
 refine jU 5126 ?_;refine aq (fun h33=>?_) fun h33=>?_
 ·refine jU 501006 ?_
  refine ak (ap (wV v.n hv.n.1 hv.n.2) ?_)
  refine jU 3000500070005111 ?_
  exact bo (.inl rfl) [] jD rfl (er rfl aG aG aG) cZ (ny (by unfold aH;rw [jK,jP]) (fun _=>rfl))
 refine jU 5126 ?_;refine aq (fun h35=>?_) fun h35=>?_
 ·exfalso;omega
 refine jU 5126 ?_;refine aq (fun h40=>?_) fun h40=>?_
 ·refine iy ?_;refine ff (.rd 0 (.rd 1 (.rd 2 (.rd 3 (.rd 4 .done))))) ?_;refine bV (da 3 1 false) ?_;refine jU 30005000700088070707010000 ?_
  exact bo (.inl rfl) [] jD rfl (er rfl aG aG aG) cZ (ny (by unfold aH;rw [jK,jK,jK,jP]) (fun _=>rfl))
 refine jU 5126 ?_;refine aq (fun h42=>?_) fun h42=>?_
 ·refine iy ?_;refine ff (.rd 0 (.rd 1 (.rd 3 (.rd 4 (.rd 5 (.rd 6 (.two 2 (.one 7 (.rd 8 (.rd 9 (.rd 10 .done)))) 7 (.rd 8 (.one 2 (.rd 9 (.rd 10 .done))))))))))) ?_;refine bV (da 4 1 false) ?_;refine Ki mS ?_;refine bV (da 4 1 false) ?_;refine jU 10000800000010000 ?_;refine DZ ?_ ?_
  ·refine kO (IK ?_)
   refine kO (ap (kz v.t v.n jO) ?_)
   refine jU 300050007000880707070 ?_
   exact bo (.inl rfl) [] jD rfl (er rfl aG aG aG) cZ (ny (b':=v.t) (by unfold aH;rw [jK,jK,jK,jK,jP]) (fun h=>by rw [if_pos h]))
  ·refine kO (ap (kz v.t v.n jO) ?_)
   refine jU 70 ?_
   refine kO (IK ?_)
   refine jU 3000500070008807070 ?_
   exact bo (.inl rfl) [] jD rfl (er rfl aG aG aG) cZ (ny (b':=v.t) (by unfold aH;rw [jK,jK,jK,jK,jP]) (fun h=>by rw [if_pos h]))
 refine jU 5126 ?_;refine aq (fun h44=>?_) fun h44=>?_
 ·exfalso;omega
 refine jU 5126 ?_;refine aq (fun h50=>?_) fun h50=>?_
 rotate_left
 ·exfalso;omega
 refine jU 125010067 ?_;refine ay 57 (fun g51=>?_) fun g51=>?_
 ·refine jU 30005000300070005111690005100000000444 ?_
  exact bo (.inl rfl) [] jD rfl (er rfl aG aG aG) (ab.tup3 cZ cN cZ) (ny (e:=1) (by unfold aH;rw [jK,jK,jK,jK,jK,jK,jP];unfold Az;rw [if_neg (by unfold ol;omega),if_neg (by unfold ol;omega)]) (fun h=>by cases h))
 refine jU 5500250100 ?_;refine aq (fun h51=>?_) fun h51=>?_
 ·refine jU 300050003000700051116 ?_
  exact bo (.inl rfl) [] jD rfl (er rfl aG aG aG) (ab.tup3 cZ cN cZ) (ny (e:=1) (by unfold aH;rw [jK,jK,jK,jK,jK,jK,jP];unfold Az;rw [if_neg (by unfold ol;omega),if_neg (by unfold ol;omega)]) (fun h=>by cases h))
 refine jU 810 ?_
 have hin:ol v.n:=⟨by omega,by omega⟩
 refine jU 501006 ?_
 refine ak (ap (KX v.n hin) ?_)
 refine ak (ap (ER (u5 v.n) (o9 hin).1) ?_)
 refine jU 3000500070005111 ?_
 exact bo (.inl rfl) [] jD rfl (er rfl aG aG aG) cZ (ny (e:=0) (by unfold aH;rw [jK,jK,jK,jK,jK,jK,jP];unfold Az;rw [if_pos hin,if_pos hin]) (fun h=>by unfold kA;rw [if_pos hin]))
end
section
open Go.RowKit Cal
def Fd.z:Fd:=⟨0,0,0⟩
def Me (f:Fd):Nat→CV:=fl [.c (.int .i64 f.call),.c (.int .i64 f.least),.c (.int .i64 f.most)]
def Qy (fs:List Fd):CV:=.rs 3 fs.length fun i j=>Me (fs.getD i Fd.z) j
def yh (v:V4):Nat→CV:=fl [.c (.int .i64 v.n),au v.t,bu v.b,.c (.int .i64 v.who.1),au v.who.2.1,au v.who.2.2]
def lJ (vs:List V4):CV:=.rs 6 vs.length fun i j=>yh (vs.getD i V4.z) j
def B6 (kind:Int) (fs:List Fd):Nat→CV:=fl [.c (.int .i64 kind),Qy fs]
def MP (kind:Int) (fs:List Fd):CV:=.agg 2 (B6 kind fs)
theorem ep:∀ (fs:List Fd) (vs:List V4) (i:Nat),i<fs.length→i<vs.length→fT (fs.take (i+1)) (vs.take (i+1))=(fT (fs.take i) (vs.take i) && eE (fs.getD i Fd.z) (vs.getD i V4.z))
 | f::fs,v::vs,0,_,_=>by simp [fT]
 | f::fs,v::vs,i+1,h1,h2=>by
  have:=ep fs vs i (by simpa using h1) (by simpa using h2)
  simp only [List.take_succ_cons,fT,this,Bool.and_assoc]
  simp
 | [],_,_,h,_=>absurd h (Nat.not_lt_zero _)
 | _::_,[],_,_,h=>absurd h (Nat.not_lt_zero _)
theorem dz:∀ (fs:List Fd) (vs:List V4) (i:Nat),i<fs.length→i<vs.length→eE (fs.getD i Fd.z) (vs.getD i V4.z)=false→fT fs vs=false
 | f::fs,v::vs,0,_,_,h=>by
  have h':eE f v=false:=h
  show (eE f v && fT fs vs)=false
  rw [h'];rfl
 | f::fs,v::vs,i+1,h1,h2,h=>by
  have:=dz fs vs i (by simpa using h1) (by simpa using h2) h
  show (eE f v && fT fs vs)=false
  rw [this,Bool.and_false]
 | [],_,_,h,_,_=>absurd h (Nat.not_lt_zero _)
 | _::_,[],_,_,h,_=>absurd h (Nat.not_lt_zero _)
theorem jw {f:Fd} {v:V4} (h:f.call=0):eE f v=bx v.who:=by unfold eE;rw [if_pos h]
theorem gg {f:Fd} {v:V4} (h:f.call=3∨f.call=4):eE f v=(decide (f.least≤v.n) && decide (v.n≤f.most)):=by unfold eE;rw [jK,if_pos h]
theorem ir {f:Fd} {v:V4} (h:f.call=6):eE f v=(decide (f.least≤(v.b.length:Nat)) && decide ((v.b.length:Nat)≤f.most)):=by unfold eE;rw [jK,jK,if_pos h]
theorem ju {f:Fd} {v:V4} (h:f.call=7):eE f v=lc v.t:=by unfold eE;rw [jK,jK,jK,if_pos h]
theorem iq {f:Fd} {v:V4} (h:f.call=9):eE f v=(decide (0≤v.n) && decide (v.n≤253402300799)):=by unfold eE;rw [jK,jK,jK,jK,if_pos h]
theorem kI {f:Fd} {v:V4} (h0:f.call≠0) (h3:f.call≠3) (h4:f.call≠4) (h6:f.call≠6) (h7:f.call≠7) (h9:f.call≠9):eE f v=true:=by unfold eE;rw [jK,jK,jK,jK,jK]
set_option maxHeartbeats 4000000 in
theorem Ab {gs:List Nat} (kind:Int) (fs:List Fd) (vs:List V4) (h8:fs.length≤8) (hl:vs.length=fs.length) (hs:(kind=2→6≤fs.length)∧(kind=3→5≤fs.length)):bM gs Tryz.prog 71 [MP kind fs,lJ vs] (.c (.bool (aQ kind fs vs))):=by
 refine ai 122 Tryz.func71 fun al w0 F0 St0=>?_;refine cy ?_
 refine ak (cE 2 fun p1=>?_)
 refine jU 20513501006751 ?_;refine aF (α:=Nat) [4,5,6,7,11,12,13,14,15,16,17,18,19,20,21,22,23,24,25,26,27,28,29,30,31,32,33,34,35,36,37,38,39,40,41,42,43,44,45,46,47,48,49,50,51,52,53,54,55,56,57,58,59,60,61,62,63,64,65,66,67,68,69,70,71,72,73,74,75] (fun i=>[(11,.c (.int .i64 (i:Nat)))]) (fun i=>[(p1,.blk 2 (B6 kind fs))]) (fun i=>i≤fs.length∧fT (fs.take i) (vs.take i)=true) (fun i=>fs.length-i) (0) ?_ (fun _=>rfl) ?_ ?_ ?_
 ·exact ⟨Nat.zero_le _,rfl⟩
 ·exact .cons cZ .nil
 ·exact .blk rfl (fun j hj=>by rcases j with _|_|j <;> exact cZ) .nil
 ·rintro i ⟨(hi:i≤fs.length),(ha:fT (fs.take i) (vs.take i)=true)⟩
  refine jU 7526 ?_;refine aq (fun h50=>?_) fun h50=>?_
  rotate_left
  ·refine jU 784000200020006000 ?_
   have hie:i=fs.length:=by omega
   have haa:fT fs vs=true:=by rw [← ha,hie,List.take_length,← hl,List.take_length]
   have hR:aQ kind fs vs=qv kind vs:=by unfold aQ;rw [haa];rfl
   refine jU 5250906 ?_;refine aq (fun h75=>?_) fun h75=>?_
   rotate_left
   ·refine jU 7810 ?_;refine ff (.rd 0 (.rd 1 (.rd 2 (.rd 3 (.rd 4 (.rd 5 (.rd 6 (.rd 7 (.rd 8 (.rd 9 (.rd 10 (.rd 11 (.rd 12 (.rd 13 (.rd 14 .done))))))))))))))) ?_;refine jU 7080010000900000 ?_;refine gG 111 (fun g78=>?_) fun g78=>?_
    ·refine jU 80007000880703000000600600600600600600600600600 ?_
     rw [hR]
     unfold qv
     rw [jK]
     refine cB ?_
     first
     |(rw [jP];done)
     |(rw [jK];simp_all;done)
     |(rw [jK];done)
     |(rw [jP];simp_all;done)
    refine jU 70 ?_;refine bV (fb (i:=3)) ?_;refine jU 7070000900000 ?_;refine bV (fb (i:=4)) ?_;refine jU 800070008807030000080070000900000 ?_
    rw [hR]
    unfold qv
    rw [jK]
    refine cB ?_
    first
    |(rw [jP];done)
    |(rw [jK];simp_all;done)
    |(rw [jK];done)
    |(rw [jP];simp_all;done)
   refine jU 16 ?_;refine jq (fb (i:=5)) ?_;refine jU 123601000 ?_;refine ay 85 (fun g76=>?_) fun g76=>?_
   ·refine jU 11100000000444444 ?_;refine jq (fb (i:=4)) ?_;refine jU 123601000 ?_;refine ay 100 (fun g76_2=>?_) fun g76_2=>?_
    ·refine jU 8000300070005110000000010000000044444 ?_
     rw [hR]
     unfold qv
     rw [jP]
     refine cB ?_
     (simp_all;done)
    refine jU 1 ?_;refine jq (fb (i:=3)) ?_;refine jU 8000300070005110000000050026090 ?_
    rw [hR]
    unfold qv
    rw [jP]
    refine cB ?_
    (simp_all;done)
   refine jU 1 ?_;refine jq (fb (i:=4)) ?_;refine jU 150023601000 ?_;refine ay 93 (fun g76_2=>?_) fun g76_2=>?_
   rotate_left
   ·refine jU 800030007000515004444444444444 ?_
    rw [hR]
    unfold qv
    rw [jP]
    refine cB ?_
    (simp_all;done)
   refine jU 1 ?_;refine jq (fb (i:=4)) ?_;refine jU 123601000 ?_;refine ay 100 (fun g76_3=>?_) fun g76_3=>?_
   ·refine jU 8000300070005110000000010000000044444 ?_
    rw [hR]
    unfold qv
    rw [jP]
    refine cB ?_
    (rw [Bool.eq_iff_iff];simp;omega)
   refine jU 1 ?_;refine jq (fb (i:=3)) ?_;refine jU 8000300070005110000000050026090 ?_
   rw [hR]
   unfold qv
   rw [jP]
   refine cB ?_
   (simp_all;done)
  refine jU 70016207810 ?_;refine jq (gq 3) ?_
  refine ak (bD (n:=3) en rfl fun p2=>?_)
  refine jU 1 ?_
  refine ar (bh 3 (Me (fs.getD i Fd.z)) ?_ ?_)
  ·exact (fun j hj=>by rcases j with _|_|_|j <;> first|exact cZ|omega)
  refine jU 7001165 ?_;refine jq (gq 6) ?_
  refine ak (bD (n:=6) dq rfl fun p3=>?_)
  refine ar (bh 6 (yh (vs.getD i V4.z)) ?_ ?_)
  ·exact (fun j hj=>by rcases j with _|_|_|_|_|_|j <;> first|exact cZ|omega)
  refine jU 5126205509065 ?_;refine aq (fun h53=>?_) fun h53=>?_
  ·refine cy ?_;refine jq (da 3 3 true) ?_;refine eL (aV 3) ?_
   refine ak (ap (rS (vs.getD i V4.z).who) ?_)
   refine jU 530 ?_;refine aq (fun h54=>?_) fun h54=>?_
   ·refine jU 80003000500030003000500050007000516 ?_
    refine cB (Eq.symm ?_)
    unfold aQ
    rw [dz fs vs i jO jO (by rw [jw jO];simpa using h54)];rfl
   refine jU 8519200840040010 ?_
   refine aw (i+1) ?_ ?_ (h5:=?_) (h7:=?_)
   ·refine ⟨by omega,?_⟩
    rw [ep fs vs i jO jO,ha,Bool.true_and]
    first
    |(rw [jw jO];simpa using h54)
    |(rw [gg jO,Bool.and_eq_true,decide_eq_true_eq,decide_eq_true_eq];omega)
    |(rw [ir jO,Bool.and_eq_true,decide_eq_true_eq,decide_eq_true_eq];omega)
    |(rw [ju jO];simpa using h66)
    |(rw [iq jO,Bool.and_eq_true,decide_eq_true_eq,decide_eq_true_eq];omega)
    | exact kI jO jO jO jO jO jO
   ·show fs.length-(i+1)<fs.length-i;omega
   ·exact .cons (cI jO) .nil
   ·exact aS.refl _
  refine jU 51267 ?_;refine aq (fun h57=>?_) fun h57=>?_
  ·refine jU 1250100509069000810 ?_;refine ay 36 (fun g58=>?_) fun g58=>?_
   ·refine jU 800030005000300030005000500070005169000510000000044444 ?_
    refine cB (Eq.symm ?_)
    unfold aQ
    rw [dz fs vs i jO jO (by rw [gg jO,Bool.and_eq_false_iff,decide_eq_false_iff_not,decide_eq_false_iff_not];omega)];rfl
   refine jU 550025010005090 ?_;refine aq (fun h58=>?_) fun h58=>?_
   ·refine jU 80003000500030003000500050007000516 ?_
    refine cB (Eq.symm ?_)
    unfold aQ
    rw [dz fs vs i jO jO (by rw [gg jO,Bool.and_eq_false_iff,decide_eq_false_iff_not,decide_eq_false_iff_not];omega)];rfl
   refine jU 8519200840040010 ?_
   refine aw (i+1) ?_ ?_ (h5:=?_) (h7:=?_)
   ·refine ⟨by omega,?_⟩
    rw [ep fs vs i jO jO,ha,Bool.true_and]
    first
    |(rw [jw jO];simpa using h54)
    |(rw [gg jO,Bool.and_eq_true,decide_eq_true_eq,decide_eq_true_eq];omega)
    |(rw [ir jO,Bool.and_eq_true,decide_eq_true_eq,decide_eq_true_eq];omega)
    |(rw [ju jO];simpa using h66)
    |(rw [iq jO,Bool.and_eq_true,decide_eq_true_eq,decide_eq_true_eq];omega)
    | exact kI jO jO jO jO jO jO
   ·show fs.length-(i+1)<fs.length-i;omega
   ·exact .cons (cI jO) .nil
   ·exact aS.refl _
  refine jU 8512200 ?_;refine aq (fun h57_2=>?_) fun h57_2=>?_
  ·refine jU 125010050906 ?_;refine ay 36 (fun g58=>?_) fun g58=>?_
   ·refine jU 800030005000300030005000500070005169000510000000044444 ?_
    refine cB (Eq.symm ?_)
    unfold aQ
    rw [dz fs vs i jO jO (by rw [gg jO,Bool.and_eq_false_iff,decide_eq_false_iff_not,decide_eq_false_iff_not];omega)];rfl
   refine jU 550025010005090 ?_;refine aq (fun h58=>?_) fun h58=>?_
   ·refine jU 80003000500030003000500050007000516 ?_
    refine cB (Eq.symm ?_)
    unfold aQ
    rw [dz fs vs i jO jO (by rw [gg jO,Bool.and_eq_false_iff,decide_eq_false_iff_not,decide_eq_false_iff_not];omega)];rfl
   refine jU 8519200840040010 ?_
   refine aw (i+1) ?_ ?_ (h5:=?_) (h7:=?_)
   ·refine ⟨by omega,?_⟩
    rw [ep fs vs i jO jO,ha,Bool.true_and]
    first
    |(rw [jw jO];simpa using h54)
    |(rw [gg jO,Bool.and_eq_true,decide_eq_true_eq,decide_eq_true_eq];omega)
    |(rw [ir jO,Bool.and_eq_true,decide_eq_true_eq,decide_eq_true_eq];omega)
    |(rw [ju jO];simpa using h66)
    |(rw [iq jO,Bool.and_eq_true,decide_eq_true_eq,decide_eq_true_eq];omega)
    | exact kI jO jO jO jO jO jO
   ·show fs.length-(i+1)<fs.length-i;omega
   ·exact .cons (cI jO) .nil
   ·exact aS.refl _
  refine jU 5126 ?_;refine aq (fun h61=>?_) fun h61=>?_
  ·refine jU 125010035010006 ?_;refine ay 51 (fun g62=>?_) fun g62=>?_
   ·refine jU 8000300050003000300050005000700051690005100000000444444 ?_
    refine cB (Eq.symm ?_)
    unfold aQ
    rw [dz fs vs i jO jO (by rw [ir jO,Bool.and_eq_false_iff,decide_eq_false_iff_not,decide_eq_false_iff_not];omega)];rfl
   refine jU 550025010003501000 ?_;refine aq (fun h62=>?_) fun h62=>?_
   ·refine jU 80003000500030003000500050007000516 ?_
    refine cB (Eq.symm ?_)
    unfold aQ
    rw [dz fs vs i jO jO (by rw [ir jO,Bool.and_eq_false_iff,decide_eq_false_iff_not,decide_eq_false_iff_not];omega)];rfl
   refine jU 8519200840040010 ?_
   refine aw (i+1) ?_ ?_ (h5:=?_) (h7:=?_)
   ·refine ⟨by omega,?_⟩
    rw [ep fs vs i jO jO,ha,Bool.true_and]
    first
    |(rw [jw jO];simpa using h54)
    |(rw [gg jO,Bool.and_eq_true,decide_eq_true_eq,decide_eq_true_eq];omega)
    |(rw [ir jO,Bool.and_eq_true,decide_eq_true_eq,decide_eq_true_eq];omega)
    |(rw [ju jO];simpa using h66)
    |(rw [iq jO,Bool.and_eq_true,decide_eq_true_eq,decide_eq_true_eq];omega)
    | exact kI jO jO jO jO jO jO
   ·show fs.length-(i+1)<fs.length-i;omega
   ·exact .cons (cI jO) .nil
   ·exact aS.refl _
  refine jU 5126 ?_;refine aq (fun h65=>?_) fun h65=>?_
  ·refine jU 501006 ?_
   refine ak (ap (rU (vs.getD i V4.z).t) ?_)
   refine jU 530 ?_;refine aq (fun h66=>?_) fun h66=>?_
   ·refine jU 80003000500030003000500050007000516 ?_
    refine cB (Eq.symm ?_)
    unfold aQ
    rw [dz fs vs i jO jO (by rw [ju jO];simpa using h66)];rfl
   refine jU 8519200840040010 ?_
   refine aw (i+1) ?_ ?_ (h5:=?_) (h7:=?_)
   ·refine ⟨by omega,?_⟩
    rw [ep fs vs i jO jO,ha,Bool.true_and]
    first
    |(rw [jw jO];simpa using h54)
    |(rw [gg jO,Bool.and_eq_true,decide_eq_true_eq,decide_eq_true_eq];omega)
    |(rw [ir jO,Bool.and_eq_true,decide_eq_true_eq,decide_eq_true_eq];omega)
    |(rw [ju jO];simpa using h66)
    |(rw [iq jO,Bool.and_eq_true,decide_eq_true_eq,decide_eq_true_eq];omega)
    | exact kI jO jO jO jO jO jO
   ·show fs.length-(i+1)<fs.length-i;omega
   ·exact .cons (cI jO) .nil
   ·exact aS.refl _
  refine jU 5126 ?_;refine aq (fun h69=>?_) fun h69=>?_
  rotate_left
  ·refine jU 8519200840040010 ?_
   refine aw (i+1) ?_ ?_ (h5:=?_) (h7:=?_)
   ·refine ⟨by omega,?_⟩
    rw [ep fs vs i jO jO,ha,Bool.true_and]
    first
    |(rw [jw jO];simpa using h54)
    |(rw [gg jO,Bool.and_eq_true,decide_eq_true_eq,decide_eq_true_eq];omega)
    |(rw [ir jO,Bool.and_eq_true,decide_eq_true_eq,decide_eq_true_eq];omega)
    |(rw [ju jO];simpa using h66)
    |(rw [iq jO,Bool.and_eq_true,decide_eq_true_eq,decide_eq_true_eq];omega)
    | exact kI jO jO jO jO jO jO
   ·show fs.length-(i+1)<fs.length-i;omega
   ·exact .cons (cI jO) .nil
   ·exact aS.refl _
  refine jU 1250906 ?_;refine ay 70 (fun g70=>?_) fun g70=>?_
  ·refine jU 8000300050003000300050005000700051690005100000000444 ?_
   refine cB (Eq.symm ?_)
   unfold aQ
   rw [dz fs vs i jO jO (by rw [iq jO,Bool.and_eq_false_iff,decide_eq_false_iff_not,decide_eq_false_iff_not];omega)];rfl
  refine jU 550025090 ?_;refine aq (fun h70=>?_) fun h70=>?_
  ·refine jU 80003000500030003000500050007000516 ?_
   refine cB (Eq.symm ?_)
   unfold aQ
   rw [dz fs vs i jO jO (by rw [iq jO,Bool.and_eq_false_iff,decide_eq_false_iff_not,decide_eq_false_iff_not];omega)];rfl
  refine jU 8519200840040010 ?_
  refine aw (i+1) ?_ ?_ (h5:=?_) (h7:=?_)
  ·refine ⟨by omega,?_⟩
   rw [ep fs vs i jO jO,ha,Bool.true_and]
   first
   |(rw [jw jO];simpa using h54)
   |(rw [gg jO,Bool.and_eq_true,decide_eq_true_eq,decide_eq_true_eq];omega)
   |(rw [ir jO,Bool.and_eq_true,decide_eq_true_eq,decide_eq_true_eq];omega)
   |(rw [ju jO];simpa using h66)
   |(rw [iq jO,Bool.and_eq_true,decide_eq_true_eq,decide_eq_true_eq];omega)
   | exact kI jO jO jO jO jO jO
  ·show fs.length-(i+1)<fs.length-i;omega
  ·exact .cons (cI jO) .nil
  ·exact aS.refl _
set_option maxHeartbeats 4000000 in
theorem pP {gs:List Nat} (vs:List V4) (hl:vs.length≤100):bM gs Tryz.prog 21 [lJ vs,lJ vs] (.c (.bool true)):=by
 refine ai 69 Tryz.func21 fun al w0 F0 St0=>?_;refine jU 52313167516 ?_;refine aq (fun h137=>?_) fun h137=>?_
 ·refine jU 800030007000516 ?_
  exfalso;omega
 refine jU 20513167810 ?_;refine aF (α:=Nat) [4,5,13,14,15,16,17,18,19,20,21,22,23,24,25,26,27,28,29,30,31,32,33,34,35,36,37,38,39,40,41,42,43,44,45,46,47,48,49,50,51,52,53,54,55,56,57,58,59,60,61,62,63,64,65,66,67,68] (fun i=>[(13,.c (.int .i64 (i:Nat)))]) (fun _=>[]) (fun i=>i≤vs.length) (fun i=>vs.length-i) (0) ?_ (fun _=>rfl) ?_ ?_ ?_
 ·exact Nat.zero_le _
 ·exact .cons cZ .nil
 ·(repeat (exact aS.nil))
 ·rintro i (hi:i≤vs.length)
  refine jU 7526 ?_;refine aq (fun h140=>?_) fun h140=>?_
  rotate_left
  ·refine jU 51684000200020006000 ?_
   refine jR (cX (hv:=cZ))
  refine jU 75116207810 ?_;refine ff (.rd 0 (.rd 1 (.rd 2 (.rd 3 (.rd 4 (.rd 5 (.rd 6 (.rd 7 (.rd 8 (.rd 9 (.rd 10 (.rd 11 (.rd 12 (.rd 13 (.rd 14 (.rd 15 (.rd 16 (.rd 17 (.rd 18 (.rd 19 (.rd 20 (.rd 21 (.rd 22 (.rd 23 (.rd 24 (.rd 25 (.rd 26 (.rd 27 (.rd 28 (.rd 29 (.rd 30 (.rd 31 (.rd 32 (.rd 33 (.rd 34 (.rd 35 (.rd 36 (.rd 37 (.rd 38 (.rd 39 (.rd 40 (.rd 41 (.rd 42 (.rd 43 (.rd 44 (.rd 45 (.rd 46 (.rd 47 (.rd 48 (.rd 49 (.rd 50 (.rd 51 .done)))))))))))))))))))))))))))))))))))))))))))))))))))) ?_;refine jU 708007000090000090000707070000900000900007070 ?_;refine gG 27 (fun g141=>?_) fun g141=>?_
  ·refine jU 800030005000300030005000700051690008803000000600600600600600600600600600600600703000000600600600600600600600600600600600600600703000000600600600600600600600600600600600 ?_
   exfalso
   (simp_all;done)
  refine jU 700008000000900007070700008000000900007070 ?_;refine bV CN ?_;refine jU 70300000 ?_;refine gG 40 (fun g141_2=>?_) fun g141_2=>?_
  ·refine jU 800030005000300030005000700051690008803000000600600600600600600600600600600600703000000600600600600600600600600600600600600600 ?_
   exfalso
   (simp_all;done)
  refine jU 900007070 ?_;refine bV (da 2 1 false) ?_;refine jU 9000070703000000070000 ?_;refine bV (da 2 1 false) ?_;refine jU 3000000070000 ?_;refine bV CN ?_;refine jU 70300000 ?_;refine gG 55 (fun g141_3=>?_) fun g141_3=>?_
  ·refine jU 800030005000300030005000700051690008803000000600600600600600600600600600600600 ?_
   exfalso
   (simp_all;done)
  refine jU 900007070 ?_;refine bV (da 3 3 true) ?_;refine bV (gq 3) ?_;refine jU 900007070 ?_;refine bV (da 3 3 true) ?_;refine bV (gq 3) ?_;refine bV (Ap rfl rfl rfl Tryz.underlying36 (by kernel_rfl) (by kernel_rfl) (.int Tryz.underlying3 jD rfl rfl (.str Tryz.underlying9 jD rfl rfl (.str Tryz.underlying9 jD rfl rfl .nil))) rfl) ?_;refine jU 880300000 ?_;refine aq (fun h141=>?_) fun h141=>?_
  ·refine jU 8000300050003000300050007000516 ?_
   exfalso
   (simp_all;done)
  refine jU 8519200840010 ?_
  refine aw (i+1) ?_ ?_ (h5:=?_)
  ·show i+1≤vs.length;omega
  ·show vs.length-(i+1)<vs.length-i;omega
  ·exact .cons (cI jO) .nil
end
section
open Go.RowKit Cal
theorem uV {gs:List Nat}:bM gs Tryz.prog 18 [] (MP 2 aM):=by
 refine ai 9 Tryz.func18 fun al w0 F0 St0=>?_;refine cy ?_
 refine ak (bD (n:=2) ql rfl fun p1=>?_)
 refine jU 65 ?_;refine jq (ae (n:=3) rfl en gE rfl rfl) ?_;refine jq (ae (n:=3) rfl en gE rfl rfl) ?_;refine jq (ae (n:=3) rfl en gE rfl rfl) ?_;refine jq (ae (n:=3) rfl en gE rfl rfl) ?_;refine jq (ae (n:=3) rfl en gE rfl rfl) ?_;refine jq (ae (n:=3) rfl en gE rfl rfl) ?_
 refine ak (aU 18 3 en fun p2=>?_)
 refine bg (freeze 1 rfl) ?_;refine bg (eP 7 (fun a b=>Me (aM.getD a Fd.z) b) rfl rfl jD (fun a b ha hb=>by rcases a with _|_|_|_|_|_|a <;> (rcases b with _|_|_|b <;> first|exact cZ|omega))) ?_;refine jq (ae (n:=2) rfl ql HU rfl rfl) ?_
 refine ar (bh 2 (B6 2 aM) ?_ ?_)
 ·exact (fun j hj=>by rcases j with _|_|j <;> first|exact cZ|omega)
 refine jU 5 ?_
 refine jR (cX (hres:=aA rfl (bz 2)) (hv:=ab.agg rfl (fun j hj=>by rcases j with _|_|j <;> exact cZ)))
theorem uW {gs:List Nat}:bM gs Tryz.prog 23 [] (MP 3 bU):=by
 refine ai 10 Tryz.func23 fun al w0 F0 St0=>?_;refine cy ?_
 refine ak (bD (n:=2) ql rfl fun p1=>?_)
 refine jU 65 ?_;refine jq (ae (n:=3) rfl en gE rfl rfl) ?_;refine jq (ae (n:=3) rfl en gE rfl rfl) ?_;refine jq (ae (n:=3) rfl en gE rfl rfl) ?_;refine jq (ae (n:=3) rfl en gE rfl rfl) ?_;refine jq (ae (n:=3) rfl en gE rfl rfl) ?_;refine jq (ae (n:=3) rfl en gE rfl rfl) ?_;refine jq (ae (n:=3) rfl en gE rfl rfl) ?_
 refine ak (aU 21 3 en fun p2=>?_)
 refine bg (freeze 1 rfl) ?_;refine bg (eP 8 (fun a b=>Me (bU.getD a Fd.z) b) rfl rfl jD (fun a b ha hb=>by rcases a with _|_|_|_|_|_|_|a <;> (rcases b with _|_|_|b <;> first|exact cZ|omega))) ?_;refine jq (ae (n:=2) rfl ql HU rfl rfl) ?_
 refine ar (bh 2 (B6 3 bU) ?_ ?_)
 ·exact (fun j hj=>by rcases j with _|_|j <;> first|exact cZ|omega)
 refine jU 5 ?_
 refine jR (cX (hres:=aA rfl (bz 2)) (hv:=ab.agg rfl (fun j hj=>by rcases j with _|_|j <;> exact cZ)))
theorem uF {gs:List Nat}:bM gs Tryz.prog 27 [] (MP 4 cg):=by
 refine ai 7 Tryz.func27 fun al w0 F0 St0=>?_;refine cy ?_
 refine ak (bD (n:=2) ql rfl fun p1=>?_)
 refine jU 65 ?_;refine jq (ae (n:=3) rfl en gE rfl rfl) ?_;refine jq (ae (n:=3) rfl en gE rfl rfl) ?_;refine jq (ae (n:=3) rfl en gE rfl rfl) ?_;refine jq (ae (n:=3) rfl en gE rfl rfl) ?_
 refine ak (aU 12 3 en fun p2=>?_)
 refine bg (freeze 1 rfl) ?_;refine bg (eP 5 (fun a b=>Me (cg.getD a Fd.z) b) rfl rfl jD (fun a b ha hb=>by rcases a with _|_|_|_|a <;> (rcases b with _|_|_|b <;> first|exact cZ|omega))) ?_;refine jq (ae (n:=2) rfl ql HU rfl rfl) ?_
 refine ar (bh 2 (B6 4 cg) ?_ ?_)
 ·exact (fun j hj=>by rcases j with _|_|j <;> first|exact cZ|omega)
 refine jU 5 ?_
 refine jR (cX (hres:=aA rfl (bz 2)) (hv:=ab.agg rfl (fun j hj=>by rcases j with _|_|j <;> exact cZ)))
theorem uA {gs:List Nat}:bM gs Tryz.prog 29 [] (MP 7 co):=by
 refine ai 6 Tryz.func29 fun al w0 F0 St0=>?_;refine cy ?_
 refine ak (bD (n:=2) ql rfl fun p1=>?_)
 refine jU 65 ?_;refine jq (ae (n:=3) rfl en gE rfl rfl) ?_;refine jq (ae (n:=3) rfl en gE rfl rfl) ?_;refine jq (ae (n:=3) rfl en gE rfl rfl) ?_
 refine ak (aU 9 3 en fun p2=>?_)
 refine bg (freeze 1 rfl) ?_;refine bg (eP 4 (fun a b=>Me (co.getD a Fd.z) b) rfl rfl jD (fun a b ha hb=>by rcases a with _|_|_|a <;> (rcases b with _|_|_|b <;> first|exact cZ|omega))) ?_;refine jq (ae (n:=2) rfl ql HU rfl rfl) ?_
 refine ar (bh 2 (B6 7 co) ?_ ?_)
 ·exact (fun j hj=>by rcases j with _|_|j <;> first|exact cZ|omega)
 refine jU 5 ?_
 refine jR (cX (hres:=aA rfl (bz 2)) (hv:=ab.agg rfl (fun j hj=>by rcases j with _|_|j <;> exact cZ)))
theorem wY {gs:List Nat}:bM gs Tryz.prog 28 [] (MP 6 dN):=by
 refine ai 5 Tryz.func28 fun al w0 F0 St0=>?_;refine cy ?_
 refine ak (bD (n:=2) ql rfl fun p1=>?_)
 refine jU 65 ?_;refine jq (ae (n:=3) rfl en gE rfl rfl) ?_;refine jq (ae (n:=3) rfl en gE rfl rfl) ?_
 refine ak (aU 6 3 en fun p2=>?_)
 refine bg (freeze 1 rfl) ?_;refine bg (eP 3 (fun a b=>Me (dN.getD a Fd.z) b) rfl rfl jD (fun a b ha hb=>by rcases a with _|_|a <;> (rcases b with _|_|_|b <;> first|exact cZ|omega))) ?_;refine jq (ae (n:=2) rfl ql HU rfl rfl) ?_
 refine ar (bh 2 (B6 6 dN) ?_ ?_)
 ·exact (fun j hj=>by rcases j with _|_|j <;> first|exact cZ|omega)
 refine jU 5 ?_
 refine jR (cX (hres:=aA rfl (bz 2)) (hv:=ab.agg rfl (fun j hj=>by rcases j with _|_|j <;> exact cZ)))
theorem xF:∀ {fs:List Fd} {vs:List V4} (i:Nat),eY fs vs→eY (fs.take i) (vs.take i)
 | [],[],i,_=>by simp [eY]
 | f::fs,v::vs,0,_=>trivial
 | f::fs,v::vs,i+1,h=>⟨h.1,xF i h.2⟩
 | [],v::vs,_,h=>h.elim
 | f::fs,[],_,h=>h.elim
theorem A9:∀ {fs:List Fd} {vs:List V4} {i:Nat},eY fs vs→i<fs.length→iS (fs.getD i Fd.z) (vs.getD i V4.z)
 | f::fs,v::vs,0,h,_=>h.1
 | f::fs,v::vs,i+1,h,hi=>A9 (i:=i) h.2 (by simpa using hi)
 | [],_,_,_,hi=>absurd hi (Nat.not_lt_zero _)
 | f::fs,[],_,h,_=>h.elim
theorem Cs {fs:List Fd} (ho:∀ f ∈ fs,fD f) {i:Nat} (hi:i<fs.length):fD (fs.getD i Fd.z):=by
 rw [List.getD_eq_getElem?_getD,List.getElem?_eq_getElem hi]
 exact ho _ (List.getElem_mem _)
theorem oT:∀ {fs:List Fd} {vs:List V4} (i:Nat) (r:R8),eY fs vs→i<fs.length→ko (fs.take (i+1)) (vs.take (i+1)) r=lL (fs.getD i Fd.z) (vs.getD i V4.z) (ko (fs.take i) (vs.take i) r)
 | f::fs,v::vs,0,r,_,_=>rfl
 | f::fs,v::vs,i+1,r,h,hi=>oT i (lL f v r) h.2 (by simpa using hi)
 | [],_,_,_,_,hi=>absurd hi (Nat.not_lt_zero _)
 | f::fs,[],_,_,h,_=>h.elim
theorem Jh {f:Fd} {v:V4} (ho:fD f) (h:iS f v) (h0:f.call≠0):OC (kT f v):=by
 obtain ⟨_,_,_,_,_,_,b7,b8,b9,_⟩:=iC ho h h0
 exact ⟨b7,by omega,by omega⟩
theorem Md {f:Fd} (ho:fD f) (v:V4) (h0:f.call≠0):(kT f v).kind=3∨(kT f v).kind=4∨(kT f v).kind=6∨(kT f v).kind=7∨(kT f v).kind=9:=by
 have e:(kT f v).kind=f.call:=by unfold kT;split <;> first|(rename_i h;exact h.symm)|rfl
 rw [e]
 unfold fD at ho
 omega
theorem Ho {gs:List Nat} (n:Nat) (r:R8) {f:Fd} {v:V4} (ho:fD f) (h:iS f v) (h0:f.call≠0) (hr:Gy r):AC gs Tryz.prog 80 [tD n r] [.op 0 (some n) 0,jY (kT f v)] (fun x H'=>x=.c (.tuple #[])∧H'=[tD n (lL f v r)]):=by
 rw [show lL f v r=cD (kT f v) r by unfold lL;rw [if_neg h0]]
 exact uP n r (kT f v) hr (Jh ho h h0) fun _ _ _=>w9 _ (Jh ho h h0) (Md ho v h0)
set_option maxHeartbeats 4000000 in
theorem As {gs:List Nat} (kind:Int) (hk:bL kind) (fs:List Fd) (vs:List V4) (ho:∀ f ∈ fs,fD f) (h8:fs.length≤8) (hg:eY fs vs):bM gs Tryz.prog 32 [MP kind fs,lJ vs] (bu (tF kind fs vs)):=by
 have hlen:=tf hg
 have hvl:vs.length≤8:=by omega
 have I0:=oh hk
 have I1:=iz y6 (fF (t:=48) jD)
 have hJ:∀ i,i≤fs.length→∃ w',ie (2+14 * i) (ko (fs.take i) (vs.take i) (cD (vE kind) (cD (w1 48) Ln))) w':=fun i hi=>by
  have:=tY (fs:=fs.take i) (vs:=vs.take i) (fun f hf=>ho f (List.mem_of_mem_take hf)) (xF i hg) I0
  rw [List.length_take,Nat.min_eq_left hi] at this
  exact ⟨_,this⟩
 have hI:=D3 hk ho hg
 have hsd:=EI hI.same
 have hpr:=rZ hk ho h8 hg
 refine ai 74 Tryz.func32 fun al w0 F0 St0=>?_;refine cy ?_
 refine ak (cE 2 fun p1=>?_)
 refine jU 651 ?_;refine jq (ae (n:=3) rfl OL Ph rfl rfl) ?_
 refine ak (cE 3 fun p2=>?_)
 refine jU 51 ?_;refine kZ (tW 11 rfl) fun hn=>?_
 obtain ⟨n,rfl⟩:=hn
 refine jE (Pn n 1 rfl cZ cZ cZ) ?_
 dsimp only [List.set_cons_zero,List.set_cons_succ,List.cons_append,List.nil_append,List.length_cons,List.length_nil,Nat.zero_add,Nat.reduceAdd]
 refine jU 16 ?_;refine jq (ae (n:=5) rfl cK dL rfl rfl) ?_
 refine ar (aJ 1 (gY n Ln (w1 48) (gN y6 jD) (fF jD).ok (.inl rfl)) ?_ (ho:=rfl) (he:=(.cons (se rfl cP) (.cons (se rfl (ab.agg rfl (fun j hj=>by rcases j with _|_|_|_|_|j <;> first|exact cZ|exact cN))) .nil))))
 refine jU 5090165 ?_;refine jq (ae (n:=5) rfl cK dL rfl rfl) ?_
 refine ar (aJ 1 (uP n (cD (w1 48) Ln) (vE kind) (gN I1 jD) (ut hk).ok (fun _ _ _=>w9 _ (ut hk).ok (.inr (.inl rfl)))) ?_ (ho:=rfl) (he:=(.cons (se rfl cP) (.cons (se rfl (ab.agg rfl (fun j hj=>by rcases j with _|_|_|_|_|j <;> first|exact cZ|exact cN))) .nil))))
 refine jU 2051350100675 ?_;refine aF (α:=Nat) [6,7,23,24,25,26,27,28,29,30,31,32,33,34,35,36,37,38,39,40,41,42,43,44,45,46,47,48,49,50,51,52,53,54,55,56,57,58,59,60,61,62,63,64] (fun i=>[(23,.c (.int .i64 (i:Nat)))]) (fun i=>[(p1,.blk 2 (B6 kind fs)),tD n (ko (fs.take i) (vs.take i) (cD (vE kind) (cD (w1 48) Ln)))]) (fun i=>i≤fs.length) (fun i=>fs.length-i) (0) ?_ (fun _=>rfl) ?_ ?_ ?_
 ·exact Nat.zero_le _
 ·exact .cons cZ .nil
 ·exact .blk rfl (fun j hj=>by rcases j with _|_|j <;> exact cZ) (aS.refl _)
 ·rintro i (hi:i≤fs.length)
  refine jU 7526 ?_;refine aq (fun h86=>?_) fun h86=>?_
  rotate_left
  ·refine jU 84000200020006000 ?_
   have hie:i=fs.length:=by omega
   obtain ⟨w',J0⟩:=hJ i hi
   subst hie
   rw [List.take_length,hlen,List.take_length] at *
   refine jU 16 ?_;refine jq (ae (n:=5) rfl cK dL rfl rfl) ?_
   refine ar (aJ 1 (gY n _ w2 (gN J0 jO) lS.ok (.inr (.inl rfl))) ?_ (ho:=rfl) (he:=(.cons (se rfl cP) (.cons (se rfl (ab.agg rfl (fun j hj=>by rcases j with _|_|_|_|_|j <;> first|exact cZ|exact cN))) .nil))))
   refine jU 165 ?_
   refine ar (aJ 1 ((by have h:=Cg (gs:=gs) n (DC kind fs vs) (gN hI jO);rw [hsd.1,hsd.2,hpr.1,hpr.2] at h;exact h)) ?_)
   refine jU 51165119009001 ?_
   refine jR (cX (hv:=cZ))
  refine jU 70016207810 ?_;refine jq (gq 3) ?_
  refine ak (bD (n:=3) en rfl fun p5=>?_)
  refine jU 1 ?_
  refine ar (bh 3 (Me (fs.getD i Fd.z)) ?_ ?_)
  ·exact (fun j hj=>by rcases j with _|_|_|j <;> first|exact cZ|omega)
  refine jU 5 ?_
  obtain ⟨w',J0⟩:=hJ i hi
  have of:=Cs ho (i:=i) jO
  have gf:=A9 hg (i:=i) jO
  refine jU 5250906 ?_;refine aq (fun h87=>?_) fun h87=>?_
  ·refine jU 700111200 ?_;refine jq (da 3 3 true) ?_;refine jq (gq 3) ?_
   refine ar (aJ 1 ((by have h:=Hl (gs:=gs) n J0 jO (vs.getD i V4.z).who;rw [show kH (vs.getD i V4.z).who (ko (fs.take i) (vs.take i) (cD (vE kind) (cD (w1 48) Ln)))=lL (fs.getD i Fd.z) (vs.getD i V4.z) (ko (fs.take i) (vs.take i) (cD (vE kind) (cD (w1 48) Ln))) by unfold lL;rw [jP]] at h;exact h)) ?_)
   refine jU 851920084005 ?_
   refine aw (i+1) ?_ ?_ (h5:=?_) (h7:=?_)
   ·show i+1≤fs.length;omega
   ·show fs.length-(i+1)<fs.length-i;omega
   ·exact .cons (cI jO) .nil
   ·rw [oT i _ hg jO]
    exact aS.refl _
  refine jU 5250906 ?_;refine aq (fun h89=>?_) fun h89=>?_
  ·refine jU 60100700111200 ?_;refine jq (ae (n:=5) rfl cK dL rfl rfl) ?_
   refine ar (aJ 1 (Ho n _ of gf jO (gN J0 jO)) ?_ (ho:=rfl) (he:=(.cons (se rfl cP) (.cons (se rfl (by rw [show kT (fs.getD i Fd.z) (vs.getD i V4.z)=⟨7,24,false,[],(vs.getD i V4.z).t⟩ by unfold kT;rw [jP]];exact ab.agg rfl (fun j hj=>by rcases j with _|_|_|_|_|j <;> first|exact cZ|exact cN))) .nil))))
   refine jU 851920084005 ?_
   refine aw (i+1) ?_ ?_ (h5:=?_) (h7:=?_)
   ·show i+1≤fs.length;omega
   ·show fs.length-(i+1)<fs.length-i;omega
   ·exact .cons (cI jO) .nil
   ·rw [oT i _ hg jO]
    exact aS.refl _
  refine py 14 (.rd 0 (.rd 1 (.rd 2 (.rd 3 (.rd 4 (.rd 5 (.rd 6 (.rd 7 (.rd 8 (.rd 9 (.rd 10 (.rd 11 (.rd 12 (.rd 13 .done)))))))))))))) ?_;refine jU 900007070700009000009000070701000090000070 ?_;refine bV (da 2 1 false) ?_;refine bV vl ?_;refine bV (ae (n:=5) rfl cK dL rfl rfl) ?_;refine BO ?_
  show cV _ _ _ _ _ _
  refine ar (aJ 1 (Ho n _ of gf jO (gN J0 jO)) ?_ (ho:=rfl) (he:=(.cons (se rfl cP) (.cons (se rfl (by rw [show kT (fs.getD i Fd.z) (vs.getD i V4.z)=⟨(fs.getD i Fd.z).call,(vs.getD i V4.z).n,false,(vs.getD i V4.z).b,[]⟩ by unfold kT;rw [jK]];exact ab.agg rfl (fun j hj=>by rcases j with _|_|_|_|_|j <;> exact cZ))) .nil))))
  refine jU 851920084005 ?_
  refine aw (i+1) ?_ ?_ (h5:=?_) (h7:=?_)
  ·show i+1≤fs.length;omega
  ·show fs.length-(i+1)<fs.length-i;omega
  ·exact .cons (cI jO) .nil
  ·rw [oT i _ hg jO]
   exact aS.refl _
end
end Am
end Go.Proofs.YthlpfjnkieaeeaaGreatDoor
