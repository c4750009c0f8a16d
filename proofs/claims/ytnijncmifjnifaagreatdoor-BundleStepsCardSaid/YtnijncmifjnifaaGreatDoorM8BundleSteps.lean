/- What the law leans on, part 8 -/
import Derived.Test.YtnijncmifjnifaaGreatDoorM7BundleSteps
import Derived.ChangeArms
import Derived.ChangeOld
import Derived.OpenShut
set_option maxRecDepth 100000
set_option maxHeartbeats 8000000
variable {gs:List Nat}
open Go.Proofs.Tryz
namespace Go.Proofs.YtnijncmifjnifaaGreatDoor
set_option linter.unusedVariables false
namespace Am
open Go.RowKit
section
open Go.RowKit Cal
def aE (b:B3) (l:List N4):B3×Nat:=if 1099511627776≤b.1 then (gU,4) else if aq (b.1+1,b.2.1,l)=true then ((b.1+1,b.2.1,l),0) else (gU,4)
def jk (a x:N4):Bool:=decide (x.1=a.1) || decide (x.2.1=a.2.1)
def cC (b:B3) (a:N4):B3×Nat:=if b.2.2.any (jk a)=true then (gU,19) else aE b (af (b.2.2++[a]))
def ry (g:Int) (x:N4):Bool:=decide (x.1=g)
def eV (b:B3) (g:Int):B3×Nat:=if aT (ry g) b.2.2<0 then (gU,18) else aE b (b.2.2.eraseIdx (aT (ry g) b.2.2).toNat)
def gg (key:V) (g:Int) (x:N4):Bool:=decide (x.2.1=key) && decide (x.1=g)
def eL (b:B3) (key:V) (g:Int):N4×Bool:=if aT (gg key g) b.2.2<0 then (ae,false) else (b.2.2.getD (aT (gg key g) b.2.2).toNat ae,true)
theorem m9 {v:Int} {s:V} {l:List N4} (h:8<l.length):aq (v,s,l)=false:=by
 unfold aq
 rw [show decide (l.length≤8)=false from Gn O]
 simp
theorem pR {b:B3} {l m:List N4} (h:8<l.length) (hm:m.length=l.length):aE b l=aE b m:=by
 unfold aE
 rw [m9 h,m9 (show 8<m.length by omega)]
 simp only [GW,if_false]
section
variable {gs:List Nat} [cw gs]
theorem mm (b:B3) (l:List N4) (hv:-9223372036854775808≤b.1):c4 gs prog 34 [jA b,uX l] (.tup 2 (fl [jA (aE b l).1,.err (aE b l).2])):=by
 refine ag 25 func34 fun _ _ _ _=>?_;refine dU ?_
 refine ay (cG 3 fun p1=>?_)
 refine ay (ce (n:=3) jC rfl fun p2=>?_)
 refine U 751 ?_;refine jE (am 0 (m:=3) (F:=bN b) rfl T (fun _=>rfl) (fun j hj=>J.of_eq (bL _ hj))) ?_;refine U 5250906 ?_;refine aX (fun h125=>?_) fun h125=>?_
 ·refine oU ?_;refine ko (.rd 0 (.rd 1 (.one 2 (.rd 3 .done)))) ?_;refine cD (aC (n:=3) rfl jC ui rfl rfl) ?_;refine cD (iv 3) ?_
  refine fT (dC 3 ?_)
  refine U 8700000400000 ?_
  refine jR (hZ (d4 (hres:=be rfl (de 3) bn) (hv:=?_)))
  rw [show aE b l=(gU,4) by unfold aE;rw [jP]]
  exact cT iw (J.errN rfl)
 refine U 150100950906810 ?_;refine jq (aC (n:=3) rfl jC ui rfl rfl) ?_
 refine ay (ce (n:=3) jC rfl fun p3=>?_)
 refine aL (ak 3 (bN (b.1+1,b.2.1,l)) ?_ ?_)
 exact dV
 refine U 675 ?_;refine gj (aI 3) ?_
 refine ay (aD (nV (b.1+1,b.2.1,l)) ?_)
 refine U 530 ?_;refine aaa (fun h129=>?_) fun h129=>?_
 ·refine U 6810 ?_;refine gj (aI 3) ?_
  refine aL (dC 3 ?_)
  refine U 51 ?_
  refine jR (d4 (hres:=be rfl (de 3) bn) (hv:=?_))
  rw [show aE b l=((b.1+1,b.2.1,l),0) by unfold aE;rw [jK,FO (by simp_all)]]
  exact cT iw J.nil
 refine oU ?_;refine ko (.rd 0 (.rd 1 (.one 2 (.rd 3 .done)))) ?_;refine cD (aC (n:=3) rfl jC ui rfl rfl) ?_;refine cD (iv 3) ?_
 refine fT (dC 3 ?_)
 refine U 8700000400000 ?_
 refine jR (hZ (d4 (hres:=be rfl (de 3) bn) (hv:=?_)))
 rw [show aE b l=(gU,4) by unfold aE;rw [jK,FN (by simp_all)]]
 exact cT iw (J.errN rfl)
theorem u7 {gs:List Nat} (a x:N4):c4 gs prog 30 (o8 x::(List.range 1).map (fl [.rp 4 (cc a)])) (.c (.bool (jk a x))):=by
 refine ag 16 func30 fun _ _ _ _=>?_;refine dU ?_
 refine ay (cG 4 fun p1=>?_)
 refine U 1260905090651 ?_;refine aS 9 (fun g137=>?_) fun g137=>?_
 ·refine U 800070005110000000044444 ?_;refine cB ?_
  unfold jk
  (simp_all;done)
 refine U 8000700051500600006010050100 ?_;refine cB ?_
 unfold jk
 (simp_all;done)
theorem y8 {gs:List Nat} (g:Int) (x:N4):c4 gs prog 38 (o8 x::(List.range 1).map (fl [.rp 1 fun _=>.c (.int .i64 g)])) (.c (.bool (ry g x))):=by
 refine ag 8 func38 fun _ _ _ _=>?_;refine dU ?_
 refine ay (cG 4 fun p1=>?_)
 refine U 512605090651 ?_
 refine jR (d4 (hv:=cZ))
theorem xo {gs:List Nat} (key:V) (g:Int) (x:N4):c4 gs prog 41 (o8 x::(List.range 2).map (fl [.rp 1 (fun _=>bi key),.rp 1 fun _=>.c (.int .i64 g)])) (.c (.bool (gg key g x))):=by
 refine ag 15 func41 fun _ _ _ _=>?_;refine dU ?_
 refine ay (cG 4 fun p1=>?_)
 refine U 1600006050100651 ?_;refine aS 9 (fun g116=>?_) fun g116=>?_
 ·refine U 80007000511000000002605090 ?_;refine cB ?_
  unfold gg
  (simp_all;done)
 refine U 80007000515004444 ?_;refine cB ?_
 unfold gg
 (simp_all;done)
theorem yt (b:B3) (a:N4) (hv:-9223372036854775808≤b.1) (hl:b.2.2.length≤20):c4 gs prog 10 [jA b,o8 a] (.tup 2 (fl [jA (cC b a).1,.err (cC b a).2])):=by
 have hsl:(b.2.2++[a]).length=b.2.2.length+1:=by simp
 refine ag 26 func10 fun _ _ _ _=>?_;refine dU ?_
 refine ay (cG 3 fun p1=>?_)
 refine ay (cG 4 fun p2=>?_)
 refine ay (ce (n:=3) jC rfl fun p3=>?_)
 refine U 751 ?_;refine jE (am 0 (m:=3) (F:=bN b) rfl T (fun _=>rfl) (fun j hj=>J.of_eq (bL _ hj))) ?_;refine jE (am 1 (m:=4) (F:=cc a) rfl T (fun _=>rfl) (fun j hj=>J.of_eq (bL _ hj))) ?_;refine jE (freeze 1 rfl) ?_;refine jE (f8 3 (m:=4) rfl rfl T) ?_;refine U 5010006 ?_;refine jq Ce ?_
 refine ay (aD (u0 (n:=1) (fv:=fl [.rp 4 (cc a)]) (by kernel_rfl) b.2.2 (jk a) (fun r=>u7 a r)) ?_ (ho:=rfl) (he:=(.cons (se rfl cZ) (.cons (se rfl (J.fn1 (J.rp dV))) .nil))))
 refine U 5 ?_;refine aX (fun h137=>?_) fun h137=>?_
 ·refine oU ?_;refine ko (.rd 0 (.rd 1 (.one 2 (.rd 3 .done)))) ?_;refine cD (aC (n:=3) rfl jC ui rfl rfl) ?_;refine cD (iv 18) ?_
  refine fT (dC 3 ?_)
  refine U 8700000400000 ?_
  refine jR (hZ (d4 (hres:=be rfl (de 3) bn) (hv:=?_)))
  rw [show cC b a=(gU,19) by unfold cC;rw [FO (by simp_all)]]
  exact cT iw (J.errN rfl)
 refine U 7810 ?_
 have hnh:¬ b.2.2.any (jk a)=true:=by simp_all
 dsimp only [List.set_cons_zero,List.set_cons_succ,List.cons_append,List.nil_append,List.length_cons,List.length_nil,Nat.zero_add,Nat.reduceAdd]
 refine Cj 5 (.rd 0 (.rd 1 (.rd 3 (.two 2 (.one 4 .done) 4 (.one 2 .done))))) ?_;refine eF (cU 2 1 false) ?_;refine yc lX ?_;refine eF (bS 4) ?_;refine AK ?_ ?_
 ·refine mA (wR (rV b.2.2 O) (fun p4=>?_))
  refine mA (bD 4 4 iq fun p5=>?_)
  refine DB ?_
  show bm _ _ _ _ _ _
  refine aL (au (aP 4 cc ae) (l:=b.2.2) (l2:=[a]) rfl rfl rfl rfl (by exact FQ _) (fun _ _=>cZ) (bp rfl (.inl rfl) T) rfl (fun j hj=>by rcases j with _|_|_|_|j<;>first|exact cZ|(exfalso;simp at hj<;>omega)) underlying22 zd ol iq CD rfl (by (simp;omega)) (by (simp;omega)) (bR rfl rfl) rfl rfl rfl (fun p6=>?_))
  refine U 851 ?_;refine jE (gA (H':=[_,_,_,dA _ (b.2.2++[a])]) [0,1,2,3] T rfl) ?_;refine jE (ck 6 (.os 3 _ 0 (b.2.2++[a]).length 4) (cO rfl)) ?_;refine U 16 ?_
  refine aL (mM 3 (m6 _ (b.2.2++[a]) O) ?_)
  rintro _ _ ⟨rfl,l',rfl,hl1,hl2⟩;refine ⟨_,_,rfl,cZ,?_⟩
  refine U 5 ?_;refine jE (freeze 3 rfl) ?_;refine jE (jI 6 (fun p q=>cc (l'.getD p ae) q) rfl rfl O (fun p q hp hq=>J.of_eq (by rw [Nat.zero_add];exact bb hq))) ?_
  have hnx:aE b l'=cC b a:=by
   unfold cC
   rw [FN hnh]
   by_cases h20:(b.2.2++[a]).length≤20
   ·rw [hl2 h20]
   exact pR O (by rw [fi,hl1])
  refine dU ?_;refine gj (aI 3) ?_;refine U 1 ?_
  refine ay (aD (mm b l' hv) ?_ (ho:=rfl) (he:=(.cons (se rfl iw) (.cons (se rfl (J.rsL hl1.symm rfl)) .nil))))
  refine U 900900 ?_
  refine aL (ak 3 (bN (aE b l').1) ?_ ?_)
  exact dV
  refine U 51 ?_
  refine jR (d4 (hres:=be rfl (de 3) bn) (hv:=?_))
  rw [← hnx]
  exact cT iw cZ
 ·refine mA (bD 4 4 iq fun p4=>?_)
  refine mA (wR (rV b.2.2 O) (fun p5=>?_))
  refine DB ?_
  show bm _ _ _ _ _ _
  refine aL (au (aP 4 cc ae) (l:=b.2.2) (l2:=[a]) rfl rfl rfl rfl (by exact FQ _) (fun _ _=>cZ) (bp rfl (.inl rfl) T) rfl (fun j hj=>by rcases j with _|_|_|_|j<;>first|exact cZ|(exfalso;simp at hj<;>omega)) underlying22 zd ol iq CD rfl (by (simp;omega)) (by (simp;omega)) (bR rfl rfl) rfl rfl rfl (fun p6=>?_))
  refine U 851 ?_;refine jE (gA (H':=[_,_,_,dA _ (b.2.2++[a])]) [0,1,2,4] T rfl) ?_;refine jE (ck 6 (.os 3 _ 0 (b.2.2++[a]).length 4) (cO rfl)) ?_;refine U 16 ?_
  refine aL (mM 3 (m6 _ (b.2.2++[a]) O) ?_)
  rintro _ _ ⟨rfl,l',rfl,hl1,hl2⟩;refine ⟨_,_,rfl,cZ,?_⟩
  refine U 5 ?_;refine jE (freeze 3 rfl) ?_;refine jE (jI 6 (fun p q=>cc (l'.getD p ae) q) rfl rfl O (fun p q hp hq=>J.of_eq (by rw [Nat.zero_add];exact bb hq))) ?_
  have hnx:aE b l'=cC b a:=by
   unfold cC
   rw [FN hnh]
   by_cases h20:(b.2.2++[a]).length≤20
   ·rw [hl2 h20]
   exact pR O (by rw [fi,hl1])
  refine dU ?_;refine gj (aI 3) ?_;refine U 1 ?_
  refine ay (aD (mm b l' hv) ?_ (ho:=rfl) (he:=(.cons (se rfl iw) (.cons (se rfl (J.rsL hl1.symm rfl)) .nil))))
  refine U 900900 ?_
  refine aL (ak 3 (bN (aE b l').1) ?_ ?_)
  exact dV
  refine U 51 ?_
  refine jR (d4 (hres:=be rfl (de 3) bn) (hv:=?_))
  rw [← hnx]
  exact cT iw cZ
theorem wl (b:B3) (g:Int) (hv:-9223372036854775808≤b.1) (hl:b.2.2.length≤20):c4 gs prog 12 [jA b,.c (.int .i64 g)] (.tup 2 (fl [jA (eV b g).1,.err (eV b g).2])):=by
 have hbd:=fx (ry g) b.2.2
 refine ag 26 func12 fun _ _ _ _=>?_;refine dU ?_
 refine ay (cG 3 fun p1=>?_)
 refine ay (cG 1 fun p2=>?_)
 refine ay (ce (n:=3) jC rfl fun p3=>?_)
 refine U 51 ?_;refine jE (am 0 (m:=3) (F:=bN b) rfl T (fun _=>rfl) (fun j hj=>J.of_eq (bL _ hj))) ?_;refine jE (am 1 (m:=1) (F:=fun _=>.c (.int .i64 g)) rfl T (fun _=>rfl) (fun j hj=>by rcases j with _|j<;>first|exact cZ|omega)) ?_;refine jE (freeze 1 rfl) ?_;refine jE (f8 3 (m:=1) rfl rfl T) ?_;refine U 5010006 ?_;refine jq Ce ?_
 refine ay (aD (kD (n:=1) (fv:=fl [.rp 1 fun _=>.c (.int .i64 g)]) (by kernel_rfl) b.2.2 (ry g) (fun r=>y8 g r)) ?_ (ho:=rfl) (he:=(.cons (se rfl cZ) (.cons (se rfl (J.fn1 (J.rp dV))) .nil))))
 refine U 5216751 ?_;refine aX (fun h148=>?_) fun h148=>?_
 ·refine oU ?_;refine ko (.rd 0 (.rd 1 (.one 2 (.rd 3 .done)))) ?_;refine cD (aC (n:=3) rfl jC ui rfl rfl) ?_;refine cD (iv 17) ?_
  refine fT (dC 3 ?_)
  refine U 8700000400000 ?_
  refine jR (hZ (d4 (hres:=be rfl (de 3) bn) (hv:=?_)))
  rw [show eV b g=(gU,18) by unfold eV;rw [jP]]
  exact cT iw (J.errN rfl)
 refine U 7810 ?_
 obtain ⟨i,hi⟩:∃ i:Nat,aT (ry g) b.2.2=(i:Nat):=⟨(aT (ry g) b.2.2).toNat,by omega⟩
 have hil:i<b.2.2.length:=by omega
 have hnx:aE b (b.2.2.eraseIdx i)=eV b g:=by
  unfold eV
  rw [jK,hi]
  rfl
 refine jE (ck 6 (.c (.int .i64 (i:Nat))) (cI hi)) ?_;refine jE (freeze 0 rfl) ?_;refine jE (f8 2 (m:=3) rfl rfl T) ?_;refine ko (.rd 0 (.rd 1 (.rd 2 (.rd 4 (.rd 5 (.rd 6 (.one 3 (.one 7 (.one 8 (.rd 9 (.rd 10 (.one 11 (.rd 12 .done))))))))))))) ?_;refine cD (bS 3) ?_;refine cD (cU 2 1 false) ?_;refine cD uy ?_;refine U 400000400000 ?_;refine cD yd ?_
 refine qM (wR (rV b.2.2 O) (fun p4=>?_))
 refine fT (mM 3 (Aq _ b.2.2 i hil O) ?_)
 rintro _ _ ⟨rfl,x,rfl⟩;refine ⟨_,_,rfl,cZ,?_⟩
 refine qM (aD (mm b (b.2.2.eraseIdx i) hv) ?_)
 refine cD wP ?_;refine cD wP ?_
 refine fT (ak 3 (bN (aE b (b.2.2.eraseIdx i)).1) ?_ ?_)
 exact dV
 refine U 8700000400000 ?_
 refine jR (d4 (hres:=be rfl (de 3) bn) (hv:=?_))
 rw [← hnx]
 exact cT iw cZ
theorem Cr {k:FuncId} {f g:Nat→CV} (h0:J (f 0) (g 0)) (h1:J (f 1) (g 1)):J (.fn k 2 f) (.fn k 2 g):=fun al St w v ⟨cs,k1,k2,k3⟩ =>
 ⟨cs,k1,k2,fun i hi=>match i,hi with
  | 0,hi=>h0 al St w _ (k3 0 hi)
  | 1,hi=>h1 al St w _ (k3 1 hi)⟩
theorem zI {gs:List Nat} (b:B3) (key:V) (g:Int):c4 gs prog 16 [jA b,bi key,.c (.int .i64 g)] (.tup 2 (fl [o8 (eL b key g).1,.c (.bool (eL b key g).2)])):=by
 have hbd:=fx (gg key g) b.2.2
 refine ag 21 func16 fun _ _ _ _=>?_;refine dU ?_
 refine ay (cG 3 fun p1=>?_)
 refine ay (cG 1 fun p2=>?_)
 refine ay (cG 1 fun p3=>?_)
 refine ay (ce (n:=4) iq rfl fun p4=>?_)
 refine U 51 ?_;refine jE (am 0 (m:=3) (F:=bN b) rfl T (fun _=>rfl) (fun j hj=>J.of_eq (bL _ hj))) ?_;refine jE (am 1 (m:=1) (F:=fun _=>bi key) rfl T (fun _=>rfl) (fun j hj=>by rcases j with _|j<;>first|exact cZ|omega)) ?_;refine jE (am 2 (m:=1) (F:=fun _=>.c (.int .i64 g)) rfl T (fun _=>rfl) (fun j hj=>by rcases j with _|j<;>first|exact cZ|omega)) ?_;refine jE (freeze 1 rfl) ?_;refine jE (freeze 2 rfl) ?_;refine jE (f8 4 (m:=1) rfl rfl T) ?_;refine jE (f8 5 (m:=1) rfl rfl T) ?_;refine U 5010006 ?_;refine jq Ce ?_
 refine ay (aD (kD (n:=2) (fv:=fl [.rp 1 (fun _=>bi key),.rp 1 fun _=>.c (.int .i64 g)]) (by kernel_rfl) b.2.2 (gg key g) (fun r=>xo key g r)) ?_ (ho:=rfl) (he:=(.cons (se rfl cZ) (.cons (se rfl (Cr (J.rp dV) (J.rp dV))) .nil))))
 refine U 5216751 ?_;refine aX (fun h117=>?_) fun h117=>?_
 ·refine dU ?_;refine jq (aC (n:=4) rfl iq Dp rfl rfl) ?_
  refine aL (ak 4 (cc ae) ?_ ?_)
  exact dV
  refine U 51 ?_
  refine jR (hZ (d4 (hres:=be rfl (de 4) bn) (hv:=?_)))
  rw [show eL b key g=(ae,false) by unfold eL;rw [jP]]
  exact cT iw cZ
 refine U 810 ?_
 obtain ⟨i,hi⟩:∃ i:Nat,aT (gg key g) b.2.2=(i:Nat):=⟨(aT (gg key g) b.2.2).toNat,by omega⟩
 have hil:i<b.2.2.length:=by omega
 have hnx:eL b key g=(b.2.2.getD i ae,true):=by
  unfold eL
  rw [jK,hi]
  rfl
 refine U 15010006 ?_;refine jq (iu (i:=i) (hz:=by omega)) ?_;refine jq (bS 4) ?_
 refine aL (ak 4 (cc (b.2.2.getD i ae)) ?_ ?_)
 exact dV
 refine U 51 ?_
 refine jR (d4 (hres:=be rfl (de 4) bn) (hv:=?_))
 rw [hnx]
 exact cT iw cZ
end
end
section
open Go.RowKit Cal
theorem ww {G:Gh} {s:AS} (f:Nat→CV):aZ G s ⟨s.env,s.b,s.H++[(none,.blk 0 f)]⟩:=fun St a w hr=>by
 refine ⟨St,fun _ h=>h,hr.df,hr.sz,hr.env,hr.un,hr.s1,hr.s2,hr.s3,?_,hr.sn,hr.sg⟩
 have ⟨fp,hp⟩:=hr.hp
 refine ⟨fp,fun j g r hj=>?_,hp.dis,hp.own,fun j hj=>hp.out j (by simp at hj;omega)⟩
 rcases Gs j s.H.length with h1|h1
 ·rw [FR h1] at hj;exact hp.rep j g r hj
 ·rw [FZ h1] at hj
  have h2:=(FL.1 hj).1
  simp at h2
  have h3:j=s.H.length:=by omega
  subst h3
  simp at hj
  obtain ⟨rfl,rfl⟩:=hj
  exact ⟨rfl,fun b hb=>hp.out _ (FQ _) b hb⟩
theorem J.nilOS {i k off:Nat}:J (.c (.slice none 0 0)) (.os i none off 0 k):=fun _ _ _ _ h=>⟨rfl,h⟩
theorem mv {l:List N4} {i:Nat} (h:i<l.length):l.getD i ae=l[i]:=by simp [List.getD,h]
theorem CN {l:List N4} {i:Nat} (hi:i<l.length):l.take (i+1)=l.take i++[l.getD i ae]:=by
 rw [FV hi];simp [List.getD,hi]
theorem li (b:B3) (hl:b.2.2.length≤1000000):c4 gs prog 9 [jA b] (jA b):=by
 refine ag 26 func9 fun _ _ _ _=>?_;refine dU ?_
 refine ay (cG 3 fun p1=>?_)
 refine ay (ce (n:=3) eQ rfl fun p2=>?_)
 refine U 5 ?_;refine jE (am 0 (m:=3) (F:=bN b) rfl T (fun _=>rfl) (fun j hj=>J.of_eq (bL _ hj))) ?_;refine jE (am 1 (m:=3) (F:=bN gU) rfl T (fun _=>rfl) (fun j hj=>by rcases j with _|_|_|j<;>first|exact cZ|exact J.nilS' rfl|omega)) ?_;refine U 5010050906 ?_;refine jq (aC (n:=3) rfl eQ mJ rfl rfl) ?_
 refine ay (ce (n:=3) eQ rfl fun p3=>?_)
 refine aL (ak 3 (fl [.c (.int .i64 b.1),bi b.2.1,.c (.slice none 0 0)]) ?_ ?_)
 exact dV
 refine U 20513501000675 ?_;refine jE (ww (c8 [])) ?_;refine aG (α:=Nat×Option Nat) [5,14,15,16,17,18,19,20,21,22,23,24] (fun (i,g)=>[(14,.c (.int .i64 (i:Nat)))]) (fun (i,g)=>[(p1,.blk 3 (bN b)),(p2,.blk 3 (bN gU)),(p3,.blk 3 (fl [.c (.int .i64 b.1),bi b.2.1,.os 3 g 0 (b.2.2.take i).length 4])),dA g (b.2.2.take i)]) (fun p=>p.1≤b.2.2.length) (fun p=>b.2.2.length-p.1) ((0,none)) ?_ (fun _=>rfl) ?_ ?_ ?_
 exact F4 _
 exact .cons cZ .nil
 ·exact .same (.same (.blk rfl (fun j hj=>by rcases j with _|_|_|j<;>first|exact cZ|exact J.nilOS) (.same .nil)))
 ·rintro ⟨i,g⟩ (hi:i≤b.2.2.length)
  have hil:(b.2.2.take i).length=i:=by rw [F6];omega
  refine U 7526 ?_;refine aaa (fun h21=>?_) fun h21=>?_
  ·refine U 84000200020006000 ?_
   have hie:i=b.2.2.length:=by omega
   refine jE (freeze 3 rfl) ?_;refine jE (thawC 2 2 3 (bN b) (fun p q=>cc (b.2.2.getD p ae) q) rfl rfl cZ (J.rsL (by rw [hie,GH]) rfl) (fun j hj h0=>by rcases j with _|_|_|j<;>first|exact cZ|omega) O (fun p q hp hq=>J.of_eq (by rw [hie,GH,Nat.zero_add];exact bb hq))) ?_;refine dU ?_;refine gj (aI 3) ?_
   refine aL (ak 3 (bN b) ?_ ?_)
   exact dV
   refine U 5 ?_
   refine jR (d4 (hres:=fo rfl (de 3)) (hv:=iw))
  refine U 7006207810 ?_;refine jq (bS 4) ?_
  refine ay (ce (n:=4) iq rfl fun p4=>?_)
  refine aL (ak 4 (cc (b.2.2.getD i ae)) ?_ ?_)
  exact dV
  refine U 5010002005 ?_;refine gj (aI 4) ?_
  refine ay (bD 4 4 cg fun p5=>?_)
  refine aL (au (aP 4 cc ae) (l:=b.2.2.take i) (l2:=[b.2.2.getD i ae]) rfl rfl rfl rfl (by exact FQ _) (fun _ _=>cZ) (bp rfl (.inl rfl) T) rfl (fun j hj=>by rcases j with _|_|_|_|j<;>first|exact cZ|(exfalso;simp at hj<;>omega)) underlying28 iM gr cg iV rfl (by (simp;omega)) (by (simp;omega)) (bR rfl rfl) rfl rfl rfl (fun p6=>?_))
  refine U 1000 ?_
  refine aL (ak 1 (fl [.c (.int .i64 b.1),bi b.2.1,.os 3 p6 0 (b.2.2.take i++[b.2.2.getD i ae]).length 4]) ?_ ?_)
  exact dV
  refine U 851920084005 ?_
  refine aH ((i+1,p6)) ?_ ?_ (h5:=?_) (h7:=?_)
  show i+1≤b.2.2.length;omega
  show b.2.2.length-(i+1)<b.2.2.length-i;omega
  exact .cons (cI O) .nil
  ·show ar _ [(p1,.blk 3 (bN b)),(p2,.blk 3 (bN gU)),(p3,.blk 3 (fl [.c (.int .i64 b.1),bi b.2.1,.os 3 p6 0 (b.2.2.take (i+1)).length 4])),dA p6 (b.2.2.take (i+1))]
   rw [CN O]
   exact ar.refl _
def gE (b:B3):Bool:=decide (100<b.2.1.length) || decide (20<b.2.2.length) || b.2.2.any fun x=>decide (100<x.2.1.length)
theorem uv (b:B3):c4 gs prog 8 [jA b] (.c (.bool (gE b))):=by
 refine ag 27 func8 fun _ _ _ _=>?_;refine dU ?_
 refine ay (cG 3 fun p1=>?_)
 refine U 751 ?_;refine jE (am 0 (m:=3) (F:=bN b) rfl T (fun _=>rfl) (fun j hj=>J.of_eq (bL _ hj))) ?_;refine U 1240000501006 ?_;refine aS 9 (fun g29=>?_) fun g29=>?_
 ·refine U 800030007000516900051000000004444 ?_;refine cB ?_
  unfold gE
  (simp_all;omega)
 refine U 550023501000 ?_;refine aX (fun h29=>?_) fun h29=>?_
 ·refine U 800030007000516 ?_;refine cB ?_
  unfold gE
  (simp_all;omega)
 refine U 7810 ?_
 (have hsh:¬ 100<b.2.1.length∧¬ 20<b.2.2.length:=by (constructor<;>omega))
 refine U 205135010006 ?_;refine aG (α:=Nat) [2,4,18,19,20,21,22,23,24,25,26] (fun i=>[(18,.c (.int .i64 (i:Nat)))]) (fun i=>[(p1,.blk 3 (bN b))]) (fun i=>i≤b.2.2.length∧∀ j,j<i→¬ 100<(b.2.2.getD j ae).2.1.length) (fun i=>b.2.2.length-i) (0) ?_ (fun _=>rfl) ?_ ?_ ?_
 exact ⟨F4 _,fun j hj=>absurd hj (F3 j)⟩
 exact .cons cZ .nil
 exact ar.refl _
 ·rintro i ⟨(hi:i≤b.2.2.length),he⟩
  (have hsh:¬ 100<b.2.1.length∧¬ 20<b.2.2.length:=by (constructor<;>omega))
  refine U 7526 ?_;refine aaa (fun h32=>?_) fun h32=>?_
  ·refine U 8000700051684000200020006000 ?_;refine cB ?_
   unfold gE
   rw [show (b.2.2.any fun x=>decide (100<x.2.1.length))=false from HP.2 fun x I hh=>by
    obtain ⟨j,hj,rfl⟩:=Gw I
    have h2:=he j O
    rw [mv hj] at h2
    exact h2 (HQ hh),Gn hsh.1,Gn hsh.2]
   rfl
  refine U 207810 ?_
  (have hsh:¬ 100<b.2.1.length∧¬ 20<b.2.2.length:=by (constructor<;>omega))
  refine U 7006 ?_;refine jq (bS 4) ?_
  refine ay (ce (n:=4) iq rfl fun p2=>?_)
  refine aL (ak 4 (cc (b.2.2.getD i ae)) ?_ ?_)
  exact dV
  refine U 52400005010065 ?_;refine aX (fun h33=>?_) fun h33=>?_
  ·refine U 8000300050003000300050007000516 ?_;refine cB ?_
   unfold gE
   rw [show (b.2.2.any fun x=>decide (100<x.2.1.length))=true from GN.2 ⟨b.2.2[i]'O,Gv _,by rw [← mv (show i<b.2.2.length by omega)];exact GX O⟩,Bool.or_true]
  refine U 840010 ?_
  (have hsh:¬ 100<b.2.1.length∧¬ 20<b.2.2.length:=by (constructor<;>omega))
  refine U 8519200 ?_
  refine aH (i+1) ?_ ?_ (h5:=?_) (h7:=?_)
  ·refine ⟨by omega,fun j hj=>?_⟩
   by_cases e:j=i
   ·subst e
    omega
   exact he j O
  show b.2.2.length-(i+1)<b.2.2.length-i;omega
  exact .cons (cI O) .nil
  exact ar.refl _
def Eh:N4:=(1,[48,48,48,48,48,48,48,48,48,48,48,48,48,48,48,48,48,48,48,48,48,48,48,48,48,48,48,48,48,48,48,48],0,5)
def xu:B3:=(1,[97],[Eh])
theorem zJ:(eV xu 1).2=4:=by kernel_rfl
theorem Cu:aq xu=true:=by kernel_rfl
theorem Ak (a:N4) {q:Nat} (hq:q<4):c8 [a] q=cc a q:=by
 have:c8 [a] (0 * 4+q)=cc ([a].getD 0 ae) q:=bb hq
 rwa [GO,Nat.zero_add] at this
theorem uJ (p q:Nat) (hp:p<1) (hq:q<4):J (c8 [Eh] (0+(p * 4+q))) (cc (xu.2.2.getD p ae) q):=by
 obtain rfl:p=0:=by omega
 rw [GO,Nat.zero_add,Nat.zero_add]
 exact J.of_eq (Ak _ hq)
theorem wn (a:N4):jc [a]=[a]:=by unfold jc;simp
theorem zK:20<(o6 xu).length:=by
 unfold o6 A3 CF CE
 rw [show xu.2.2=[Eh] from rfl,wn]
 refine HQ ?_
 kernel_rfl
section
variable {gs:List Nat} [cw gs] [pf gs]
theorem rU:c4 gs prog 7 [] (.c (.bool true)):=by
 have hb:=rP (gs:=gs) xu
 rw [Cu,FO rfl,FO rfl] at hb
 have ho:=wl (gs:=gs) xu 1 T T
 rw [zJ] at ho
 have hlen:=zK
 generalize o6 xu=W at *
 generalize (eV xu 1).1=Z at *
 refine ag 31 func7 fun _ _ _ _=>?_;refine U 6516 ?_;refine jq (aC (n:=4) rfl iq Dp rfl rfl) ?_
 refine ay (bD 4 4 iq fun p1=>?_)
 refine jq (aC (n:=3) rfl jC ui rfl rfl) ?_
 refine ay (ce (n:=3) jC rfl fun p2=>?_)
 refine aL (ak 3 (fl [.c (.int .i64 1),bi [97],.os 0 p1 0 1 4]) ?_ ?_)
 exact dV
 refine U 5 ?_;refine jE (kF 0 4 (c8 [Eh]) rfl (FQ _) (fun j hj=>by rcases j with _|_|_|_|j<;>first|exact cZ|omega)) ?_;refine jE (freeze 0 rfl) ?_;refine jE (thawC 1 2 0 (bN xu) (fun p q=>cc (xu.2.2.getD p ae) q) rfl rfl cZ cZ (fun j hj h0=>by rcases j with _|_|_|j<;>first|exact cZ|omega) T uJ) ?_;refine dU ?_;refine gj (aI 3) ?_
 refine ay (aD ho ?_)
 refine U 9009001 ?_
 refine ay (ce (n:=3) jC rfl fun p3=>?_)
 refine aL (ak 3 (bN Z) ?_ ?_)
 exact dV
 refine U 651 ?_;refine gj (aI 3) ?_
 refine ay (aD hb ?_)
 refine U 165119009001 ?_
 refine ay (aD (wu 4 T) ?_)
 refine U 12 ?_;refine aS 22 (fun g15=>?_) fun g15=>?_
 rotate_left
 ·refine U 8000700051500444150044 ?_;refine cB ?_
  (simp_all;done)
 refine U 11000000005000001 ?_;refine aS 26 (fun g15_2=>?_) fun g15_2=>?_
 ·refine U 8000700051100000000231 ?_;refine cB ?_
  (exact GX O)
 refine U 8000700051500444 ?_;refine cB ?_
 (simp_all;done)
end
end
section
open Go.RowKit Cal
theorem lF {a b:V}:(⟨a.toArray⟩:ByteArray)=⟨b.toArray⟩↔a=b:=⟨fun h=>Array.mk.inj (ByteArray.mk.inj h),fun h=>by rw [h]⟩
theorem dH {l:List N4} {i:Nat} (h:i<l.length):l.getD i ae=l[i]:=by simp [List.getD,h]
theorem B4 {a b:N4}:a=b↔a.1=b.1∧a.2.1=b.2.1∧a.2.2.1=b.2.2.1∧a.2.2.2=b.2.2.2:=by
 have ⟨a1,a2,a3,a4⟩:=a
 have ⟨b1,b2,b3,b4⟩:=b
 simp
theorem CI {a b:B3}:a=b↔a.1=b.1∧a.2.1=b.2.1∧a.2.2=b.2.2:=by
 have ⟨a1,a2,a3⟩:=a
 have ⟨b1,b2,b3⟩:=b
 simp
theorem tC {l r:List N4} {i:Nat} (h1:i<l.length) (h2:i<r.length) (he:l.take i=r.take i) (h:l.getD i ae=r.getD i ae):l.take (i+1)=r.take (i+1):=by
 rw [FV h1,FV h2,he,← dH,← dH,h]
theorem xn {b:B3} {key:V} {g:Int} {i:Nat} (hi:i<b.2.2.length) (he:∀ j,j<i→gg key g (b.2.2.getD j ae)=false) (h:gg key g (b.2.2.getD i ae)=true):eL b key g=(b.2.2.getD i ae,true):=by
 have e:aT (gg key g) b.2.2=(i:Nat):=ib i hi (by rw [← dH hi];exact h) fun j hj=>by rw [← dH O];exact he j hj
 unfold eL
 rw [jK,e]
 rfl
theorem zH {b:B3} {key:V} {g:Int} (he:∀ j,j<b.2.2.length→gg key g (b.2.2.getD j ae)=false):eL b key g=(ae,false):=by
 have e:aT (gg key g) b.2.2=-1:=gO fun i hi=>by rw [← dH hi];exact he i hi
 unfold eL
 rw [jP]
theorem ft (b:B3) (l:List N4):(if 1099511627776<b.1 then (gU,4) else if aq (b.1+1,b.2.1,l)=true then ((b.1+1,b.2.1,l),0) else (gU,4))=aE b l:=by
 unfold aE
 by_cases h1:1099511627776<b.1
 ·rw [FO h1,jP]
 ·rw [FN h1]
  by_cases h2:1099511627776≤b.1
  ·rw [FO h2,FN]
   unfold aq fa
   have:decide (b.1+1≤1099511627776)=false:=Gn O
   simp [this]
  ·rw [FN h2]
theorem lM (a b:B3) (hl:a.2.2.length≤1000000):c4 gs prog 15 [jA a,jA b] (.c (.bool (decide (a=b)))):=by
 refine ag 45 func15 fun _ _ _ _=>?_;refine dU ?_
 refine ay (cG 3 fun p1=>?_)
 refine ay (cG 3 fun p2=>?_)
 refine U 751 ?_;refine jE (am 0 (m:=3) (F:=bN a) rfl T (fun _=>rfl) (fun j hj=>J.of_eq (bL _ hj))) ?_;refine jE (am 1 (m:=3) (F:=bN b) rfl T (fun _=>rfl) (fun j hj=>J.of_eq (bL _ hj))) ?_;refine U 12509050906 ?_;refine aS 11 (fun g157=>?_) fun g157=>?_
 ·refine U 800030007000516900051000000004444444110000000044444 ?_;refine cB ?_
  refine (Gn fun h=>?_).symm
  subst h
  (simp_all;done)
 refine U 1500600005010050100 ?_;refine aS 18 (fun g157_2=>?_) fun g157_2=>?_
 ·refine U 800030007000516900051000000004444444 ?_;refine cB ?_
  refine (Gn fun h=>?_).symm
  subst h
  (simp_all;done)
 refine U 5500235010003501000 ?_;refine aX (fun h157=>?_) fun h157=>?_
 ·refine U 800030007000516 ?_;refine cB ?_
  refine (Gn fun h=>?_).symm
  subst h
  (simp_all;done)
 refine U 7810 ?_
 have hsl:a.1=b.1∧a.2.1=b.2.1∧a.2.2.length=b.2.2.length:=by
  try simp only [lF,iW] at *
  (simp_all;omega)
 refine U 205135010006 ?_;refine aG (α:=Nat) [4,5,30,31,32,33,34,35,36,37,38,39,40,41,42,43,44] (fun i=>[(30,.c (.int .i64 (i:Nat)))]) (fun i=>[(p1,.blk 3 (bN a)),(p2,.blk 3 (bN b))]) (fun i=>i≤a.2.2.length∧a.2.2.take i=b.2.2.take i) (fun i=>a.2.2.length-i) (0) ?_ (fun _=>rfl) ?_ ?_ ?_
 exact ⟨F4 _,by simp⟩
 exact .cons cZ .nil
 exact ar.refl _
 ·rintro i ⟨(hi:i≤a.2.2.length),he⟩
  have hsl:a.1=b.1∧a.2.1=b.2.1∧a.2.2.length=b.2.2.length:=by
   try simp only [lF,iW] at *
   (simp_all;done)
  refine U 7526 ?_;refine aaa (fun h160=>?_) fun h160=>?_
  ·refine U 8000700051684000200020006000 ?_;refine cB ?_
   refine (GX ?_).symm
   rw [CI]
   refine ⟨hsl.1,hsl.2.1,?_⟩
   have e1:a.2.2.take i=a.2.2:=Gl O
   have e2:b.2.2.take i=b.2.2:=Gl O
   rw [← e1,he,e2]
  refine U 207810 ?_
  have hsl:a.1=b.1∧a.2.1=b.2.1∧a.2.2.length=b.2.2.length:=by
   try simp only [lF,iW] at *
   (simp_all;done)
  refine U 75116 ?_;refine pZ (.rd 0 (.rd 1 (.rd 2 (.rd 3 (.rd 4 (.rd 5 (.rd 6 (.rd 7 (.rd 8 (.rd 9 (.rd 10 .done))))))))))) ?_;refine eF (cU 2 1 false) ?_;refine U 900007010000 ?_;refine eF (bS 4) ?_;refine eF (cU 2 1 false) ?_;refine U 900007010000 ?_;refine eF (bS 4) ?_;refine eF (pD rfl rfl rfl underlying42 (by kernel_rfl) (by kernel_rfl) (.int underlying3 T rfl rfl (.str underlying9 T rfl rfl (.int underlying3 T rfl rfl (.int underlying3 T rfl rfl .nil)))) rfl) ?_;refine U 880 ?_;refine aX (fun h161=>?_) fun h161=>?_
  ·refine U 8000300050003000300050007000516 ?_;refine cB ?_
   refine (Gn fun h=>?_).symm
   subst h
   (simp_all;done)
  refine U 840010 ?_
  have hsl:a.1=b.1∧a.2.1=b.2.1∧a.2.2.length=b.2.2.length:=by
   try simp only [iW] at *
   (simp_all;done)
  refine U 8519200 ?_
  refine aH (i+1) ?_ ?_ (h5:=?_) (h7:=?_)
  ·refine ⟨by omega,tC O O he ?_⟩
   rw [B4]
   try simp only [iW,and_true] at *
   (simp_all;done)
  show a.2.2.length-(i+1)<a.2.2.length-i;omega
  exact .cons (cI O) .nil
  exact ar.refl _
theorem iI (b:B3) (l:List N4) (hv:-9223372036854775808≤b.1) (hk:∀ i,(l.getD i ae).2.1.length≤1000000):c4 gs prog 35 [jA b,uX l] (.tup 2 (fl [jA (aE b l).1,.c (.int .i64 ((aE b l).2:Nat))])):=by
 refine ag 26 func35 fun _ _ _ _=>?_;refine dU ?_
 refine ay (cG 3 fun p1=>?_)
 refine ay (ce (n:=3) eQ rfl fun p2=>?_)
 refine U 51 ?_;refine jE (am 0 (m:=3) (F:=bN b) rfl T (fun _=>rfl) (fun j hj=>J.of_eq (bL _ hj))) ?_;refine U 15010050906 ?_;refine jq (aC (n:=3) rfl eQ mJ rfl rfl) ?_
 refine ay (ce (n:=3) eQ rfl fun p3=>?_)
 refine aL (ak 3 (bN (b.1,b.2.1,l)) ?_ ?_)
 exact dV
 refine U 525090675 ?_;refine aX (fun h116=>?_) fun h116=>?_
 ·refine dU ?_;refine jq (aC (n:=3) rfl eQ mJ rfl rfl) ?_
  refine aL (dC 3 ?_)
  refine U 51 ?_
  refine jR (hZ (d4 (hres:=be rfl (de 3) bn) (hv:=?_)))
  rw [show aE b l=(gU,4) by rw [← ft,jP]]
  exact cT iw cZ
 refine U 90950906810 ?_
 refine aL (ak 1 (bN (b.1+1,b.2.1,l)) ?_ ?_)
 exact dV
 refine U 675 ?_;refine gj (aI 3) ?_
 refine ay (aD (lP (b.1+1,b.2.1,l) hk) ?_)
 refine U 530 ?_;refine aX (fun h120=>?_) fun h120=>?_
 ·refine dU ?_;refine jq (aC (n:=3) rfl eQ mJ rfl rfl) ?_
  refine aL (dC 3 ?_)
  refine U 51 ?_
  refine jR (hZ (d4 (hres:=be rfl (de 3) bn) (hv:=?_)))
  rw [show aE b l=(gU,4) by rw [← ft,jK,FN (by simp_all)]]
  exact cT iw cZ
 refine U 6810 ?_;refine gj (aI 3) ?_
 refine aL (dC 3 ?_)
 refine U 51 ?_
 refine jR (d4 (hres:=be rfl (de 3) bn) (hv:=?_))
 rw [show aE b l=((b.1+1,b.2.1,l),0) by rw [← ft,jK,FO (by simp_all)]]
 exact cT iw cZ
theorem rb (b:B3) (key:V) (g:Int) (hl:b.2.2.length≤1000000):c4 gs prog 17 [jA b,bi key,.c (.int .i64 g)] (.tup 2 (fl [o8 (eL b key g).1,.c (.bool (eL b key g).2)])):=by
 refine ag 30 func17 fun _ _ _ _=>?_;refine dU ?_
 refine ay (cG 3 fun p1=>?_)
 refine ay (ce (n:=4) cg rfl fun p2=>?_)
 refine U 751 ?_;refine jE (am 0 (m:=3) (F:=bN b) rfl T (fun _=>rfl) (fun j hj=>J.of_eq (bL _ hj))) ?_;refine jE (am 1 (m:=4) (F:=cc ae) rfl T (fun _=>rfl) (fun j hj=>by rcases j with _|_|_|_|j<;>first|exact cZ|omega)) ?_;refine U 205135010006 ?_;refine aG (α:=Nat) [7,9,13,14,15,16,17,18,19,20,21,22,23,24,25,26,27,28] (fun i=>[(13,.c (.int .i64 (i:Nat)))]) (fun i=>[(p1,.blk 3 (bN b)),(p2,.blk 4 (cc ae))]) (fun i=>i≤b.2.2.length∧∀ j,j<i→gg key g (b.2.2.getD j ae)=false) (fun i=>b.2.2.length-i) (0) ?_ (fun _=>rfl) ?_ ?_ ?_
 exact ⟨F4 _,fun j hj=>absurd hj (F3 j)⟩
 exact .cons cZ .nil
 exact ar.refl _
 ·rintro i ⟨(hi:i≤b.2.2.length),he⟩
  skip
  refine jE (am 1 (m:=4) (F:=cc ae) rfl T (fun _=>rfl) (fun j hj=>by rcases j with _|_|_|_|j<;>exact cZ)) ?_;refine U 7526 ?_;refine aaa (fun h147=>?_) fun h147=>?_
  ·refine U 684000200020006000 ?_;refine jq (aC (n:=4) rfl cg Es rfl rfl) ?_
   refine aL (ak 4 (cc ae) ?_ ?_)
   exact dV
   refine U 51 ?_
   refine jR (d4 (hres:=be rfl (de 4) bn) (hv:=?_))
   rw [zH fun j hj=>he j O]
   exact cT iw cZ
  refine U 207810 ?_
  skip
  refine jE (am 1 (m:=4) (F:=cc ae) rfl T (fun _=>rfl) (fun j hj=>by rcases j with _|_|_|_|j<;>exact cZ)) ?_;refine U 7006 ?_;refine jq (bS 4) ?_
  refine ay (ce (n:=4) cg rfl fun p3=>?_)
  refine aL (ak 4 (cc (b.2.2.getD i ae)) ?_ ?_)
  exact dV
  refine U 16000015010065 ?_;refine aS 21 (fun g148=>?_) fun g148=>?_
  rotate_left
  ·refine U 84001030055004444 ?_
   skip
   refine jE (am 1 (m:=4) (F:=cc ae) rfl T (fun _=>rfl) (fun j hj=>by rcases j with _|_|_|_|j<;>exact cZ)) ?_;refine U 8519200 ?_
   refine aH (i+1) ?_ ?_ (h5:=?_) (h7:=?_)
   ·refine ⟨by omega,fun j hj=>?_⟩
    by_cases e:j=i
    ·subst e
     unfold gg
     (simp_all;done)
    exact he j O
   show b.2.2.length-(i+1)<b.2.2.length-i;omega
   exact .cons (cI O) .nil
   exact ar.refl _
  refine U 5100000000215090 ?_;refine aX (fun h148=>?_) fun h148=>?_
  ·refine dU ?_;refine gj (aI 4) ?_
   refine aL (ak 4 (cc (b.2.2.getD i ae)) ?_ ?_)
   exact dV
   refine U 51 ?_
   refine jR (sF (hZ (hZ (sF (hZ (d4 (hres:=be rfl (de 4) bn) (hv:=?_)))))))
   rw [xn (i:=i) O he (by unfold gg;(simp_all;done))]
   exact cT iw cZ
  refine U 840010 ?_
  skip
  refine jE (am 1 (m:=4) (F:=cc ae) rfl T (fun _=>rfl) (fun j hj=>by rcases j with _|_|_|_|j<;>exact cZ)) ?_;refine U 8519200 ?_
  refine aH (i+1) ?_ ?_ (h5:=?_) (h7:=?_)
  ·refine ⟨by omega,fun j hj=>?_⟩
   by_cases e:j=i
   ·subst e
    unfold gg
    (simp_all;done)
   exact he j O
  show b.2.2.length-(i+1)<b.2.2.length-i;omega
  exact .cons (cI O) .nil
  exact ar.refl _
def Dd (g:Option Nat) (off m:Nat):SV where
 p:=fun _ _ x=>match g with
  | some b=>∃ o cap,x=.slice (some ⟨b,o,none⟩) m cap∧(0<m→o=off)
  | none=>m=0∧x=.slice none 0 0
 st:=fun _ _ h=>h
 one:=fun {St w v} h=>by
  cases g with
  | none=>have ⟨_,h⟩:=h;subst h;exact ⟨rfl,rfl⟩
  | some b=>have ⟨o,cap,h,_⟩:=h;subst h;exact ⟨rfl,rfl⟩
section
variable {P:Program} {G:Gh} {o:Oper} {s:AS} {t u:TypeId} {x y:Operand}
theorem sj {e:TypeId} {i n k l:Nat} {g:Option Nat} {lo:Operand} {k1:IntKind} {z:Int} (ho:o.op=.slice t x (some lo) none none) (I:s.eval x=.os i g 0 n k) (h1:P.underlying t=some (.slice e)) (h5:(P.info? e).map (·.size)=some k) (e1:s.eval lo=.c (.int k1 z)) (q1:z=(l:Nat)) (hl:l≤n):aN P G o s (.pv (Dd g (l * k) (n-l))):=fun St a w hr=>by
 cases g with
 | some b=>exact vM ho I h1 h5 e1 q1 hl St a w hr
 | none =>
  have ⟨info,hi',hs⟩:=FM.1 h5
  have v1:a.eval lo=.int k1 (l:Nat):=by have:=c7 hr e1;rw [q1] at this;exact this
  have ⟨h2,h3⟩:=c7 hr I
  subst h2
  have hl0:l=0:=by omega
  subst hl0
  refine ⟨.slice none 0 0,fun W _=>cl ho ?_,by omega,rfl⟩
  rw [h3]
  simp only [GK,H8,v1]
  simp [Instr.sliceAt,Instr.slice,underlying,h1,Instr.sliceBounds,Instr.sliceBound,asIntOf,sizeOf,typeInfo,hi']
theorem pr {i off k m N:Nat} {g:Option Nat} {F:Nat→CV} (hy:s.eval y=.pv (Dd g off m)) (hH:Holds s i g N F) (hN:off+m * k≤N):mz P G s y k m fun j=>F (off+j):=by
 cases g with
 | some b=>exact sa hy hH hN
 | none =>
  intro St a w h
  have ⟨h1,h2⟩:=c7 h hy
  rw [h2]
  subst h1
  exact i0
end
theorem jY (o:List N4) (k:Nat) {j:Nat} (hj:j<(o.take k).length * 4):c8 o (0+j)=c8 (o.take k) j:=by
 obtain ⟨q,r,hr,rfl⟩:∃ q r,r<4∧j=q * 4+r:=⟨j / 4,j % 4,Gu _ T,by omega⟩
 rw [Nat.zero_add]
 have e1:c8 (o.take k) (q * 4+r)=cc ((o.take k).getD q ae) r:=bb hr
 have e2:c8 o (q * 4+r)=cc (o.getD q ae) r:=bb hr
 rw [F6] at hj
 rw [e1,e2,FJ,FJ,HV O]
theorem m3 (o:List N4) (k:Nat) (j:Nat):c8 o (k * 4+j)=c8 (o.drop k) j:=by
 obtain ⟨q,r,hr,rfl⟩:∃ q r,r<4∧j=q * 4+r:=⟨j / 4,j % 4,Gu _ T,by omega⟩
 have e1:c8 (o.drop k) (q * 4+r)=cc ((o.drop k).getD q ae) r:=bb hr
 have e2:c8 o ((k+q) * 4+r)=cc (o.getD (k+q) ae) r:=bb hr
 rw [e1,show k * 4+(q * 4+r)=(k+q) * 4+r by omega,e2,FJ,FJ,G9]
theorem wd {g:Int} {o:List N4} {k:Nat} (h0:0<k) (h:g<(o.getD (k-1) ae).1):cK g o k=cK g o (k-1):=by
 obtain ⟨k,rfl⟩:∃ j,k=j+1:=⟨k-1,by omega⟩
 rw [GY] at h ⊢
 rw [cK,FO h]
theorem pG {g:Int} {o:List N4} {k:Nat} (h:k=0∨(o.getD (k-1) ae).1≤g):cK g o k=k:=by
 cases k with
 | zero=>rfl
 | succ k =>
  rcases h with h|h
  omega
  ·rw [GY] at h
   rw [cK,jK]
theorem pq {l:List N4} {i:Nat} (hi:i<l.length):af (l.take (i+1))=kp (af (l.take i)) (l.getD i ae):=by
 rw [FV hi,lI,dH hi]
theorem fM (g:Option Nat) (l:List N4) (hl:l.length≤1000):AC gs prog 36 [dA g l] [.os 0 g 0 l.length 4] (fun r H'=>r=uX (af l)∧∃ x,H'=[x]):=by
 refine ag 48 func36 fun _ _ _ _=>?_;refine U 516 ?_;refine jE (freeze 0 rfl) ?_;refine jE (jI 0 (fun p q=>cc (l.getD p ae) q) rfl rfl O (fun p q hp hq=>J.of_eq (by rw [Nat.zero_add];exact bb hq))) ?_;refine dU ?_
 refine ay (bD 0 4 cg fun p1=>?_)
 refine U 2051316751 ?_;refine aG (α:=Nat×Option Nat) [3,5,6,7,11,12,13,14,15,16,17,18,19,20,21,22,23,24,25,26,27,28,29,30,31,32,33,34,35,36,37,38,39,40,41,42,43,44,45,46] (fun (i,g)=>[(3,.os 1 g 0 (af (l.take i)).length 4),(11,.c (.int .i64 (i:Nat)))]) (fun (i,g')=>[(g,.frz (l.length * 4) (c8 l)),dA g' (af (l.take i))]) (fun p=>p.1≤l.length) (fun p=>l.length-p.1) ((0,p1)) ?_ (fun _=>rfl) ?_ ?_ ?_
 exact F4 _
 exact .cons cZ (.cons cZ .nil)
 exact .same (.blk rfl (fun j hj=>absurd hj (F3 j)) .nil)
 ·rintro ⟨i,g'⟩ (hi:i≤l.length)
  have hsl:(af (l.take i)).length=i:=by rw [fi,F6];omega
  refine U 7526 ?_;refine aaa (fun h67=>?_) fun h67=>?_
  ·refine U 84000200020006000 ?_
   have hie:i=l.length:=by omega
   subst hie
   refine jE (freeze 1 rfl) ?_;refine jE (jI 3 (fun p q=>cc ((af l).getD p ae) q) rfl rfl O (fun p q hp hq=>J.of_eq (by rw [GH,Nat.zero_add];exact bb hq))) ?_;refine U 70005116 ?_
   exact ew (.inl rfl) [0] T rfl (fo rfl (cR rfl)) (m:=uX (af l)) (J.rsL (by rw [GH]) rfl) ⟨rfl,_,rfl⟩
  refine U 7006207810 ?_;refine jq (bS 4) ?_
  refine ay (ce (n:=4) cg rfl fun p2=>?_)
  refine aL (ak 4 (cc (l.getD i ae)) ?_ ?_)
  exact dV
  refine U 5 ?_
  have hil:i<l.length:=by omega
  refine U 20751316 ?_;refine aG (α:=Nat) [6,17,18,19,20,21,22,23,24,25,26,27,28,29,30,31] (fun k=>[(6,.c (.int .i64 (k:Nat)))]) (fun k=>[(g,.frz (l.length * 4) (c8 l)),dA g' (af (l.take i)),(p2,.blk 4 (cc (l.getD i ae)))]) (fun k=>k≤i∧cK (l.getD i ae).1 (af (l.take i)) (af (l.take i)).length=cK (l.getD i ae).1 (af (l.take i)) k) (fun k=>k) (i) ?_ (fun _=>rfl) ?_ ?_ ?_
  exact ⟨FQ _,by rw [hsl]⟩
  exact .cons (cI O) .nil
  exact ar.refl _
  ·rintro k ⟨hk,hp⟩
   refine U 77 ?_;refine pZ (.rd 0 (.rd 1 (.rd 2 (.rd 3 (.rd 4 (.rd 5 (.rd 6 (.rd 7 (.rd 8 (.rd 9 (.rd 10 (.rd 11 (.rd 12 .done))))))))))))) ?_;refine U 7080070 ?_;refine oQ 19 (fun g69=>?_) fun g69=>?_
   rotate_left
   ·refine U 84000200020006000300880300000600600600600600600600600600 ?_
    have hq:cK (l.getD i ae).1 (af (l.take i)) (af (l.take i)).length=k:=by
     rw [hp]
     exact pG (by (left;omega))
    have hins:(af (l.take i)).take k++[l.getD i ae]++(af (l.take i)).drop k=af (l.take (i+1)):=by
     rw [pq hil]
     unfold kp
     rw [hq,GC]
     rfl
    refine dU ?_
    refine ay (bD 0 4 cg fun p3=>?_)
    refine U 11 ?_;refine jq (zq (hl:=(dm _ _)) (hu:=(bO rfl (show _=((k:Nat):Int) by omega)))) ?_
    refine aL (au (aP 4 cc ae) (l:=[]) (l2:=(af (l.take i)).take k) rfl rfl rfl rfl (GP (GO _)) (fun j hj=>absurd hj (by simp)) (bp (i:=1) (off:=0) (N:=(af (l.take i)).length * 4) (F:=c8 (af (l.take i))) rfl (.inl rfl) O) (by rw [F6];omega) (fun j hj=>J.of_eq (jY _ _ hj)) underlying28 iM gr cg iV rfl (by (simp;omega)) (by (simp;omega)) (fun j hj=>eo _ (Gu _ T)) rfl rfl rfl (fun p4=>?_))
    refine U 1651 ?_;refine gj (aI 4) ?_
    refine ay (bD 4 4 cg fun p5=>?_)
    refine aL (au (aP 4 cc ae) (l:=(af (l.take i)).take k) (l2:=[l.getD i ae]) rfl rfl rfl rfl (by exact FQ _) (fun _ _=>cZ) (bp rfl (.inl rfl) T) rfl (fun j hj=>by rcases j with _|_|_|_|j<;>first|exact cZ|(exfalso;simp at hj<;>omega)) underlying28 iM gr cg iV rfl (by (simp;omega)) (by (simp;omega)) (bR rfl rfl) rfl rfl rfl (fun p6=>?_))
    refine U 11120051 ?_;refine jq ((sj (i:=1) (g:=g') (n:=(af (l.take i)).length) (l:=k) rfl rfl underlying28 gr rfl rfl O)) ?_
    refine aL (au (aP 4 cc ae) (l:=(af (l.take i)).take k++[l.getD i ae]) (l2:=(af (l.take i)).drop k) rfl rfl rfl rfl (FQ _) (fun _ _=>cZ) (pr (i:=1) (g:=g') (F:=c8 (af (l.take i))) (off:=k * 4) (N:=(af (l.take i)).length * 4) rfl (.inl rfl) O) (by rw [Gk]) (fun j _=>J.of_eq (m3 _ _ _)) underlying28 iM gr cg iV rfl (by (simp;omega)) (by (simp;omega)) (fun j hj=>eo _ (Gu _ T)) rfl rfl rfl (fun p7=>?_))
    refine U 1 ?_;refine bY (gA (H':=[_,_]) [0,3] T rfl) ?_
    rw [hins]
    refine U 851920084005 ?_
    refine aH ((i+1,p7)) ?_ ?_ (h5:=?_) (h7:=?_)
    show i+1≤l.length;omega
    show l.length-(i+1)<l.length-i;omega
    exact .cons (cO rfl) (.cons (cI O) .nil)
    exact ar.refl _
   refine U 300007070 ?_;refine eF (iu (i:=(k-1)) (hz:=by omega)) ?_;refine U 900000 ?_;refine yc (lX (v:=.c (.int .i64 ((af (l.take i)).getD (k-1) ae).1)) (hv:=by rw [Nat.zero_add];exact bb T)) ?_;refine U 880300000080010000900000 ?_;refine aX (fun h69=>?_) fun h69=>?_
   ·refine U 8400519120020810 ?_
    refine aH (k-1) ?_ ?_ (h5:=?_) (h7:=?_)
    ·refine ⟨by omega,?_⟩
     rw [hp]
     exact wd O (by (simp_all;done))
    show k-1<k;omega
    exact .cons (cI O) .nil
    exact ar.refl _
   refine U 84000200020006000 ?_
   have hq:cK (l.getD i ae).1 (af (l.take i)) (af (l.take i)).length=k:=by
    rw [hp]
    exact pG (by (right;omega))
   have hins:(af (l.take i)).take k++[l.getD i ae]++(af (l.take i)).drop k=af (l.take (i+1)):=by
    rw [pq hil]
    unfold kp
    rw [hq,GC]
    rfl
   refine dU ?_
   refine ay (bD 0 4 cg fun p3=>?_)
   refine U 11 ?_;refine jq (zq (hl:=(dm _ _)) (hu:=(bO rfl (show _=((k:Nat):Int) by omega)))) ?_
   refine aL (au (aP 4 cc ae) (l:=[]) (l2:=(af (l.take i)).take k) rfl rfl rfl rfl (GP (GO _)) (fun j hj=>absurd hj (by simp)) (bp (i:=1) (off:=0) (N:=(af (l.take i)).length * 4) (F:=c8 (af (l.take i))) rfl (.inl rfl) O) (by rw [F6];omega) (fun j hj=>J.of_eq (jY _ _ hj)) underlying28 iM gr cg iV rfl (by (simp;omega)) (by (simp;omega)) (fun j hj=>eo _ (Gu _ T)) rfl rfl rfl (fun p4=>?_))
   refine U 1651 ?_;refine gj (aI 4) ?_
   refine ay (bD 4 4 cg fun p5=>?_)
   refine aL (au (aP 4 cc ae) (l:=(af (l.take i)).take k) (l2:=[l.getD i ae]) rfl rfl rfl rfl (by exact FQ _) (fun _ _=>cZ) (bp rfl (.inl rfl) T) rfl (fun j hj=>by rcases j with _|_|_|_|j<;>first|exact cZ|(exfalso;simp at hj<;>omega)) underlying28 iM gr cg iV rfl (by (simp;omega)) (by (simp;omega)) (bR rfl rfl) rfl rfl rfl (fun p6=>?_))
   refine U 11120051 ?_;refine jq ((sj (i:=1) (g:=g') (n:=(af (l.take i)).length) (l:=k) rfl rfl underlying28 gr rfl rfl O)) ?_
   refine aL (au (aP 4 cc ae) (l:=(af (l.take i)).take k++[l.getD i ae]) (l2:=(af (l.take i)).drop k) rfl rfl rfl rfl (FQ _) (fun _ _=>cZ) (pr (i:=1) (g:=g') (F:=c8 (af (l.take i))) (off:=k * 4) (N:=(af (l.take i)).length * 4) rfl (.inl rfl) O) (by rw [Gk]) (fun j _=>J.of_eq (m3 _ _ _)) underlying28 iM gr cg iV rfl (by (simp;omega)) (by (simp;omega)) (fun j hj=>eo _ (Gu _ T)) rfl rfl rfl (fun p7=>?_))
   refine U 1 ?_;refine bY (gA (H':=[_,_]) [0,3] T rfl) ?_
   rw [hins]
   refine U 851920084005 ?_
   refine aH ((i+1,p7)) ?_ ?_ (h5:=?_) (h7:=?_)
   show i+1≤l.length;omega
   show l.length-(i+1)<l.length-i;omega
   exact .cons (cO rfl) (.cons (cI O) .nil)
   exact ar.refl _
theorem Co {l:List N4} {a:N4} (h:∀ j,j<l.length→jk a (l.getD j ae)=false):¬ l.any (jk a)=true:=by
 rw [GN]
 rintro ⟨x,I,hh⟩
 obtain ⟨i,hi,rfl⟩:=Gw I
 have:=h i hi
 rw [dH hi] at this
 rw [this] at hh
 cases hh
theorem sN {l:List N4} {a:N4} {i:Nat} (hi:i<l.length) (h:jk a (l.getD i ae)=true):l.any (jk a)=true:=by
 rw [dH hi] at h
 exact GN.2 ⟨_,Gv hi,h⟩
theorem va (l:List N4) (i:Nat) {j:Nat} (hj:j<(l.take i).length * 4):cc (l.getD (0+j / 4) ae) (j % 4)=c8 (l.take i) j:=by
 have:=jY l i hj
 rw [Nat.zero_add] at this ⊢
 exact this
theorem xF (l:List N4) (i j:Nat):cc (l.getD (i+j / 4) ae) (j % 4)=c8 (l.drop i) j:=by
 show _=cc ((l.drop i).getD (j / 4) ae) (j % 4)
 rw [FJ,FJ,G9]
theorem qY (b:B3) (a:N4) (hv:-9223372036854775808≤b.1) (hl:b.2.2.length≤900) (hk:∀ i,((af (b.2.2++[a])).getD i ae).2.1.length≤1000000):c4 gs prog 11 [jA b,o8 a] (.tup 2 (fl [jA (cC b a).1,.c (.int .i64 ((cC b a).2:Nat))])):=by
 have hsl:(b.2.2++[a]).length=b.2.2.length+1:=by simp
 refine ag 41 func11 fun _ _ _ _=>?_;refine dU ?_
 refine ay (cG 3 fun p1=>?_)
 refine ay (cG 4 fun p2=>?_)
 refine ay (ce (n:=3) eQ rfl fun p3=>?_)
 refine U 751 ?_;refine jE (am 0 (m:=3) (F:=bN b) rfl T (fun _=>rfl) (fun j hj=>J.of_eq (bL _ hj))) ?_;refine jE (am 1 (m:=4) (F:=cc a) rfl T (fun _=>rfl) (fun j hj=>J.of_eq (bL _ hj))) ?_;refine jE (am 2 (m:=3) (F:=bN gU) rfl T (fun _=>rfl) (fun j hj=>by rcases j with _|_|_|j<;>first|exact cZ|exact J.nilS' rfl|omega)) ?_;refine U 205135010006 ?_;refine aG (α:=Nat) [5,7,11,12,13,14,15,16,17,18,19,20,21,22,23,24,25,26,27,28] (fun i=>[(11,.c (.int .i64 (i:Nat)))]) (fun i=>[(p1,.blk 3 (bN b)),(p2,.blk 4 (cc a)),(p3,.blk 3 (bN gU))]) (fun i=>i≤b.2.2.length∧∀ j,j<i→jk a (b.2.2.getD j ae)=false) (fun i=>b.2.2.length-i) (0) ?_ (fun _=>rfl) ?_ ?_ ?_
 exact ⟨F4 _,fun j hj=>absurd hj (F3 j)⟩
 exact .cons cZ .nil
 exact ar.refl _
 ·rintro i ⟨(hi:i≤b.2.2.length),he⟩
  skip
  skip
  refine jE (am 2 (m:=3) (F:=bN gU) rfl T (fun _=>rfl) (fun j hj=>by rcases j with _|_|_|j<;>exact cZ)) ?_;refine U 7526 ?_;refine aaa (fun h128=>?_) fun h128=>?_
  ·refine U 784000200020006000 ?_
   have hnx:aE b (af (b.2.2++[a]))=cC b a:=by
    unfold cC
    rw [FN (Co fun j hj=>he j O)]
   refine jE (freeze 0 rfl) ?_;refine jE (freeze 1 rfl) ?_;refine jE (f8 2 (m:=3) rfl rfl T) ?_;refine jE (f8 3 (m:=4) rfl rfl T) ?_;refine ko (.rd 0 (.rd 2 (.rd 3 (.rd 5 (.two 1 (.two 4 (.one 6 (.one 7 (.one 8 (.one 9 (.rd 10 (.rd 11 (.one 12 (.rd 13 .done)))))))) 6 (.one 4 (.one 7 (.one 8 (.one 9 (.rd 10 (.rd 11 (.one 12 (.rd 13 .done))))))))) 6 (.one 1 (.one 4 (.one 7 (.one 8 (.one 9 (.rd 10 (.rd 11 (.one 12 (.rd 13 .done)))))))))))))) ?_;refine cD (bS 3) ?_;refine cD (cU 2 1 false) ?_;refine cD uy ?_;refine cD (bS 4) ?_;refine pX ?_ ?_
   ·refine qM (bD 0 4 cg fun p4=>?_)
    refine pX ?_ ?_
    ·refine fT (au (aP 4 cc ae) (l:=[]) (l2:=b.2.2) rfl rfl rfl rfl (GP (GO _)) (fun j hj=>absurd hj (by simp)) (eT rfl) rfl (fun j hj=>cZ) underlying28 iM gr cg iV rfl (by simp;omega) (by simp;omega) (fun j hj=>eo _ (Gu _ T)) rfl rfl rfl (fun q1=>?_))
     refine qM (bD 4 4 cg fun p5=>?_)
     refine fT (au (aP 4 cc ae) (l:=b.2.2) (l2:=[a]) rfl rfl rfl rfl (FQ _) (fun _ _=>cZ) (bp rfl (.inl rfl) T) rfl (fun j hj=>by rcases j with _|_|_|_|j<;>first|exact cZ|(exfalso;simp at hj<;>omega)) underlying28 iM gr cg iV rfl (by simp;omega) (by simp;omega) (bR rfl rfl) rfl rfl rfl (fun q2=>?_))
     refine fT (mM 3 (fM _ (b.2.2++[a]) O) ?_)
     rintro _ _ ⟨rfl,x,rfl⟩;refine ⟨_,_,rfl,cZ,?_⟩
     refine qM (aD (iI b (af (b.2.2++[a])) hv hk) ?_)
     refine cD wP ?_;refine cD wP ?_
     refine fT (ak 3 (bN (aE b (af (b.2.2++[a]))).1) ?_ ?_)
     exact dV
     refine U 8700000400000 ?_
     refine jR (d4 (hres:=be rfl (de 3) bn) (hv:=?_))
     rw [← hnx]
     exact cT iw cZ
    ·refine qM (bD 4 4 cg fun p5=>?_)
     refine fT (au (aP 4 cc ae) (l:=[]) (l2:=b.2.2) rfl rfl rfl rfl (GP (GO _)) (fun j hj=>absurd hj (by simp)) (eT rfl) rfl (fun j hj=>cZ) underlying28 iM gr cg iV rfl (by simp;omega) (by simp;omega) (fun j hj=>eo _ (Gu _ T)) rfl rfl rfl (fun q1=>?_))
     refine fT (au (aP 4 cc ae) (l:=b.2.2) (l2:=[a]) rfl rfl rfl rfl (FQ _) (fun _ _=>cZ) (bp rfl (.inl rfl) T) rfl (fun j hj=>by rcases j with _|_|_|_|j<;>first|exact cZ|(exfalso;simp at hj<;>omega)) underlying28 iM gr cg iV rfl (by simp;omega) (by simp;omega) (bR rfl rfl) rfl rfl rfl (fun q2=>?_))
     refine fT (mM 3 (fM _ (b.2.2++[a]) O) ?_)
     rintro _ _ ⟨rfl,x,rfl⟩;refine ⟨_,_,rfl,cZ,?_⟩
     refine qM (aD (iI b (af (b.2.2++[a])) hv hk) ?_)
     refine cD wP ?_;refine cD wP ?_
     refine fT (ak 3 (bN (aE b (af (b.2.2++[a]))).1) ?_ ?_)
     exact dV
     refine U 8700000400000 ?_
     refine jR (d4 (hres:=be rfl (de 3) bn) (hv:=?_))
     rw [← hnx]
     exact cT iw cZ
   ·refine qM (bD 4 4 cg fun p4=>?_)
    refine qM (bD 0 4 cg fun p5=>?_)
    refine fT (au (aP 4 cc ae) (l:=[]) (l2:=b.2.2) rfl rfl rfl rfl (GP (GO _)) (fun j hj=>absurd hj (by simp)) (eT rfl) rfl (fun j hj=>cZ) underlying28 iM gr cg iV rfl (by simp;omega) (by simp;omega) (fun j hj=>eo _ (Gu _ T)) rfl rfl rfl (fun q1=>?_))
    refine fT (au (aP 4 cc ae) (l:=b.2.2) (l2:=[a]) rfl rfl rfl rfl (FQ _) (fun _ _=>cZ) (bp rfl (.inl rfl) T) rfl (fun j hj=>by rcases j with _|_|_|_|j<;>first|exact cZ|(exfalso;simp at hj<;>omega)) underlying28 iM gr cg iV rfl (by simp;omega) (by simp;omega) (bR rfl rfl) rfl rfl rfl (fun q2=>?_))
    refine fT (mM 4 (fM _ (b.2.2++[a]) O) ?_)
    rintro _ _ ⟨rfl,x,rfl⟩;refine ⟨_,_,rfl,cZ,?_⟩
    refine qM (aD (iI b (af (b.2.2++[a])) hv hk) ?_)
    refine cD wP ?_;refine cD wP ?_
    refine fT (ak 3 (bN (aE b (af (b.2.2++[a]))).1) ?_ ?_)
    exact dV
    refine U 8700000400000 ?_
    refine jR (d4 (hres:=be rfl (de 3) bn) (hv:=?_))
    rw [← hnx]
    exact cT iw cZ
  refine U 207810 ?_
  skip
  skip
  refine jE (am 2 (m:=3) (F:=bN gU) rfl T (fun _=>rfl) (fun j hj=>by rcases j with _|_|_|j<;>exact cZ)) ?_;refine U 7006 ?_;refine jq (bS 4) ?_
  refine ay (ce (n:=4) cg rfl fun p4=>?_)
  refine aL (ak 4 (cc (b.2.2.getD i ae)) ?_ ?_)
  exact dV
  refine U 125090509065 ?_;refine aS 20 (fun g129=>?_) fun g129=>?_
  ·refine U 69000510000000044444 ?_;refine jq (aC (n:=3) rfl eQ mJ rfl rfl) ?_
   refine aL (ak 3 (bN gU) ?_ ?_)
   exact dV
   refine U 51 ?_
   refine jR (sF (hZ (hZ (sF (hZ (d4 (hres:=be rfl (de 3) bn) (hv:=?_)))))))
   rw [show cC b a=(gU,19) by unfold cC;rw [FO (sN (i:=i) O (by unfold jk;(simp_all;done)))]]
   exact cT iw cZ
  refine U 5500600005010050100 ?_;refine aX (fun h129=>?_) fun h129=>?_
  ·refine dU ?_;refine jq (aC (n:=3) rfl eQ mJ rfl rfl) ?_
   refine aL (ak 3 (bN gU) ?_ ?_)
   exact dV
   refine U 51 ?_
   refine jR (sF (hZ (hZ (sF (hZ (d4 (hres:=be rfl (de 3) bn) (hv:=?_)))))))
   rw [show cC b a=(gU,19) by unfold cC;rw [FO (sN (i:=i) O (by unfold jk;(simp_all;done)))]]
   exact cT iw cZ
  refine U 840010 ?_
  skip
  skip
  refine jE (am 2 (m:=3) (F:=bN gU) rfl T (fun _=>rfl) (fun j hj=>by rcases j with _|_|_|j<;>exact cZ)) ?_;refine U 8519200 ?_
  refine aH (i+1) ?_ ?_ (h5:=?_) (h7:=?_)
  ·refine ⟨by omega,fun j hj=>?_⟩
   by_cases e:j=i
   ·subst e
    unfold jk
    (simp_all;done)
   exact he j O
  show b.2.2.length-(i+1)<b.2.2.length-i;omega
  exact .cons (cI O) .nil
  exact ar.refl _
theorem pA (g:Option Nat) (b:B3) (l:List N4) (hv:-9223372036854775808≤b.1) (hl:l.length≤1000) (hk:∀ i,(l.getD i ae).2.1.length≤1000000):AC gs prog 35 [dA g l] [jA b,.os 0 g 0 l.length 4] (fun r H'=>r=.tup 2 (fl [jA (aE b l).1,.c (.int .i64 ((aE b l).2:Nat))])∧∃ x,H'=[x]):=by
 refine ag 26 func35 fun _ _ _ _=>?_;refine dU ?_
 refine ay (cG 3 fun p1=>?_)
 refine ay (ce (n:=3) eQ rfl fun p2=>?_)
 refine U 51 ?_;refine jE (freeze 0 rfl) ?_;refine jE (jI 1 (fun p q=>cc (l.getD p ae) q) rfl rfl O (fun p q hp hq=>J.of_eq (by rw [Nat.zero_add];exact bb hq))) ?_;refine jE (am 1 (m:=3) (F:=bN b) rfl T (fun _=>rfl) (fun j hj=>J.of_eq (bL _ hj))) ?_;refine U 15010050906 ?_;refine jq (aC (n:=3) rfl eQ mJ rfl rfl) ?_
 refine ay (ce (n:=3) eQ rfl fun p3=>?_)
 refine aL (ak 3 (bN (b.1,b.2.1,l)) ?_ ?_)
 exact dV
 refine U 525090675 ?_;refine aX (fun h116=>?_) fun h116=>?_
 ·refine dU ?_;refine jq (aC (n:=3) rfl eQ mJ rfl rfl) ?_
  refine aL (dC 3 ?_)
  refine U 3000700051 ?_
  exact ew (.inl rfl) [0] T rfl (be rfl (de 3) bn) (m:=.tup 2 (fl [jA (aE b l).1,.c (.int .i64 ((aE b l).2:Nat))])) (by rw [show aE b l=(gU,4) by rw [← ft,jP]];exact cT iw cZ) ⟨rfl,_,rfl⟩
 refine U 90950906810 ?_
 refine aL (ak 1 (bN (b.1+1,b.2.1,l)) ?_ ?_)
 exact dV
 refine U 675 ?_;refine gj (aI 3) ?_
 refine ay (aD (lP (b.1+1,b.2.1,l) hk) ?_)
 refine U 530 ?_;refine aX (fun h120=>?_) fun h120=>?_
 ·refine dU ?_;refine jq (aC (n:=3) rfl eQ mJ rfl rfl) ?_
  refine aL (dC 3 ?_)
  refine U 3000700051 ?_
  exact ew (.inl rfl) [0] T rfl (be rfl (de 3) bn) (m:=.tup 2 (fl [jA (aE b l).1,.c (.int .i64 ((aE b l).2:Nat))])) (by rw [show aE b l=(gU,4) by rw [← ft,jK,FN (by simp_all)]];exact cT iw cZ) ⟨rfl,_,rfl⟩
 refine U 6810 ?_;refine gj (aI 3) ?_
 refine aL (dC 3 ?_)
 refine U 700051 ?_
 exact ew (.inl rfl) [0] T rfl (be rfl (de 3) bn) (m:=.tup 2 (fl [jA (aE b l).1,.c (.int .i64 ((aE b l).2:Nat))])) (by rw [show aE b l=((b.1+1,b.2.1,l),0) by rw [← ft,jK,FO (by simp_all)]];exact cT iw cZ) ⟨rfl,_,rfl⟩
theorem y7 {b:B3} {g:Int} {i:Nat} (hi:i<b.2.2.length) (he:∀ j,j<i→ry g (b.2.2.getD j ae)=false) (h:ry g (b.2.2.getD i ae)=true):eV b g=aE b (b.2.2.take i++b.2.2.drop (i+1)):=by
 have e:aT (ry g) b.2.2=(i:Nat):=ib i hi (by rw [← dH hi];exact h) fun j hj=>by rw [← dH O];exact he j hj
 unfold eV
 rw [jK,e,← List.eraseIdx_eq_take_drop_succ]
 rfl
theorem BX {b:B3} {g:Int} (he:∀ j,j<b.2.2.length→ry g (b.2.2.getD j ae)=false):eV b g=(gU,18):=by
 have e:aT (ry g) b.2.2=-1:=gO fun i hi=>by rw [← dH hi];exact he i hi
 unfold eV
 rw [jP]
theorem Bm {l:List N4} {n m:Nat} (h:∀ i,(l.getD i ae).2.1.length≤m) (i:Nat):((l.take n++l.drop (n+1)).getD i ae).2.1.length≤m:=by
 by_cases hi:i<(l.take n).length
 ·rw [FJ,FR hi,HV (by rw [F6] at hi;omega),← FJ]
  exact h i
 ·rw [FJ,FZ O,G9,← FJ]
  exact h _
theorem tR (b:B3) (g:Int) (hv:-9223372036854775808≤b.1) (hl:b.2.2.length≤900) (hk:∀ i,(b.2.2.getD i ae).2.1.length≤1000000):c4 gs prog 13 [jA b,.c (.int .i64 g)] (.tup 2 (fl [jA (eV b g).1,.c (.int .i64 ((eV b g).2:Nat))])):=by
 refine ag 38 func13 fun _ _ _ _=>?_;refine dU ?_
 refine ay (cG 3 fun p1=>?_)
 refine ay (ce (n:=3) eQ rfl fun p2=>?_)
 refine U 751 ?_;refine jE (am 0 (m:=3) (F:=bN b) rfl T (fun _=>rfl) (fun j hj=>J.of_eq (bL _ hj))) ?_;refine jE (am 1 (m:=3) (F:=bN gU) rfl T (fun _=>rfl) (fun j hj=>by rcases j with _|_|_|j<;>first|exact cZ|exact J.nilS' rfl|omega)) ?_;refine U 205135010006 ?_;refine aG (α:=Nat) [5,6,7,11,12,13,14,15,16,17,18,19,20,21,22,23,24,25,26,27,28,29,30,31,32,33,34,35,36] (fun i=>[(11,.c (.int .i64 (i:Nat)))]) (fun i=>[(p1,.blk 3 (bN b)),(p2,.blk 3 (bN gU))]) (fun i=>i≤b.2.2.length∧∀ j,j<i→ry g (b.2.2.getD j ae)=false) (fun i=>b.2.2.length-i) (0) ?_ (fun _=>rfl) ?_ ?_ ?_
 exact ⟨F4 _,fun j hj=>absurd hj (F3 j)⟩
 exact .cons cZ .nil
 exact ar.refl _
 ·rintro i ⟨(hi:i≤b.2.2.length),he⟩
  skip
  refine jE (am 1 (m:=3) (F:=bN gU) rfl T (fun _=>rfl) (fun j hj=>by rcases j with _|_|_|j<;>exact cZ)) ?_;refine U 7526 ?_;refine aaa (fun h137=>?_) fun h137=>?_
  ·refine U 684000200020006000 ?_;refine jq (aC (n:=3) rfl eQ mJ rfl rfl) ?_
   refine aL (ak 3 (bN gU) ?_ ?_)
   exact dV
   refine U 51 ?_
   refine jR (d4 (hres:=be rfl (de 3) bn) (hv:=?_))
   rw [BX fun j hj=>he j O]
   exact cT iw cZ
  refine U 207810 ?_
  skip
  refine jE (am 1 (m:=3) (F:=bN gU) rfl T (fun _=>rfl) (fun j hj=>by rcases j with _|_|_|j<;>exact cZ)) ?_;refine U 70016 ?_;refine jq (bS 4) ?_
  refine ay (ce (n:=4) cg rfl fun p3=>?_)
  refine U 1 ?_
  refine aL (ak 4 (cc (b.2.2.getD i ae)) ?_ ?_)
  exact dV
  refine U 521509065 ?_;refine aaa (fun h138=>?_) fun h138=>?_
  ·refine U 840010 ?_
   skip
   refine jE (am 1 (m:=3) (F:=bN gU) rfl T (fun _=>rfl) (fun j hj=>by rcases j with _|_|_|j<;>exact cZ)) ?_;refine U 8519200 ?_
   refine aH (i+1) ?_ ?_ (h5:=?_) (h7:=?_)
   ·refine ⟨by omega,fun j hj=>?_⟩
    by_cases e:j=i
    ·subst e
     unfold ry
     (simp_all;done)
    exact he j O
   show b.2.2.length-(i+1)<b.2.2.length-i;omega
   exact .cons (cI O) .nil
   exact ar.refl _
  refine oU ?_
  have hil:i<b.2.2.length:=by omega
  have hnx:eV b g=aE b (b.2.2.take i++b.2.2.drop (i+1)):=y7 hil he (by unfold ry;(simp_all;done))
  refine jE (freeze 0 rfl) ?_;refine jE (f8 2 (m:=3) rfl rfl T) ?_;refine ko (.rd 0 (.rd 2 (.rd 3 (.rd 4 (.rd 5 (.rd 7 (.rd 8 (.rd 9 (.rd 10 (.rd 11 (.one 1 (.one 6 (.one 12 (.one 13 (.rd 14 (.rd 15 (.one 16 (.rd 17 .done)))))))))))))))))) ?_;refine cD (bS 3) ?_;refine cD (cU 2 1 false) ?_;refine cD uy ?_;refine cD CR ?_;refine cD (DC (hl:=(dm _ _)) (hu:=(bO rfl (show _=((i:Nat):Int) by omega)))) ?_;refine cD (cU 2 1 false) ?_;refine cD uy ?_;refine cD CR ?_;refine cD yd ?_;refine cD (DC (hl:=(bO rfl (show _=(((i+1):Nat):Int) by omega))) (hu:=(dm _ _))) ?_
  refine qM (bD 0 4 cg fun p4=>?_)
  refine fT (au (aP 4 cc ae) (l:=[]) (l2:=b.2.2.take i) rfl rfl rfl rfl (GP (GO _)) (fun j hj=>absurd hj (by simp)) (eT rfl) (by rw [F6];omega) (fun j hj=>J.of_eq (va _ _ hj)) underlying28 iM gr cg iV rfl (by simp;omega) (by simp;omega) (fun j hj=>eo _ (Gu _ T)) rfl rfl rfl (fun q1=>?_))
  refine fT (au (aP 4 cc ae) (l:=b.2.2.take i) (l2:=b.2.2.drop (i+1)) rfl rfl rfl rfl (FQ _) (fun _ _=>cZ) (eT rfl) (by rw [Gk]) (fun j hj=>J.of_eq (xF _ _ _)) underlying28 iM gr cg iV rfl (by simp;omega) (by simp;omega) (fun j hj=>eo _ (Gu _ T)) rfl rfl rfl (fun q2=>?_))
  refine fT (mM 3 (pA _ b (b.2.2.take i++b.2.2.drop (i+1)) hv (by rw [FX,F6,Gk];omega) (Bm hk)) ?_)
  rintro _ _ ⟨rfl,x,rfl⟩;refine ⟨_,_,rfl,cZ,?_⟩
  refine cD wP ?_;refine cD wP ?_
  refine fT (ak 3 (bN (aE b (b.2.2.take i++b.2.2.drop (i+1))).1) ?_ ?_)
  exact dV
  refine U 8700000400000 ?_
  refine jR (sF (hZ (hZ (sF (hZ (d4 (hres:=be rfl (de 3) bn) (hv:=?_)))))))
  rw [hnx]
  exact cT iw cZ
abbrev As:=Bool×N4
def Ef (s:As):Nat→CV:=fl [.c (.bool s.1),.c (.int .i64 s.2.1),bi s.2.2.1,.c (.int .i64 s.2.2.2.1),.c (.int .i64 s.2.2.2.2)]
def Ep (l:List As):CV:=.rs 5 l.length fun i=>Ef (l.getD i (false,ae))
structure Au (c:B3):Prop where
 lo:-9223372036854775808≤c.1
 len:c.2.2.length≤20
 key:∀ i,(c.2.2.getD i ae).2.1.length≤100
theorem qI {l:List N4} {i:Nat} (h:l.length≤i):l.getD i ae=ae:=by
 rw [FJ,GL h]
 rfl
theorem vA {b:B3} (h:aq b=true):Au b:=by
 have h2:=h
 unfold aq fa at h2
 simp only [FK,FT] at h2
 refine ⟨by omega,by omega,fun i=>?_⟩
 by_cases hi:i<b.2.2.length
 ·have:=pB h hi
  unfold aw at this
  simp only [FK] at this
  have:=(nA this.1.1).1
  omega
 ·rw [qI O]
  exact F4 _
theorem oJ:Au gU:=⟨by decide,by decide,fun i=>by rw [show gU.2.2=[] from rfl,qI (F4 _)];exact F4 _⟩
theorem sw {b:B3} {l:List N4}:Au (aE b l).1:=by
 unfold aE
 split
 exact oJ
 ·split
  ·rename_i h;exact vA h
  exact oJ
theorem pS (b:B3) (l:List N4):(aE b l).2≤19:=by
 unfold aE
 split
 exact (by decide:(4:Nat)≤19)
 ·split
  exact (by decide:(0:Nat)≤19)
  exact (by decide:(4:Nat)≤19)
theorem BW {c:B3} {g:Int}:Au (eV c g).1∧(eV c g).2≤19:=by
 unfold eV
 split
 exact ⟨oJ,(by decide:(18:Nat)≤19)⟩
 exact ⟨sw,pS _ _⟩
theorem Bh {c:B3} {a:N4}:Au (cC c a).1∧(cC c a).2≤19:=by
 unfold cC
 split
 exact ⟨oJ,(by decide:(19:Nat)≤19)⟩
 exact ⟨sw,pS _ _⟩
theorem zi {b:B3} (h:gE b=false) (hv:-9223372036854775808≤b.1):Au b:=by
 unfold gE at h
 simp only [Bool.or_eq_false_iff,Hl,HP,FT] at h
 refine ⟨hv,by omega,fun i=>?_⟩
 by_cases hi:i<b.2.2.length
 ·rw [mv hi]
  have:=h.2 _ (Gv hi)
  omega
 ·rw [qI O]
  exact F4 _
theorem yC {l:List N4} {n:Nat} (h:∀ i,(l.getD i ae).2.1.length≤n) (i:Nat):((af l).getD i ae).2.1.length≤n:=by
 by_cases hi:i<(af l).length
 ·rw [dH hi]
  have hm:=(lJ l).subset (Gv hi)
  have ⟨j,hj,e⟩:=Gw hm
  have:=h j
  rw [dH hj,e] at this
  exact this
 ·rw [qI O]
  exact F4 _
theorem Ao {l:List N4} {a:N4} {n:Nat} (h:∀ i,(l.getD i ae).2.1.length≤n) (ha:a.2.1.length≤n) (i:Nat):((l++[a]).getD i ae).2.1.length≤n:=by
 by_cases hi:i<l.length
 ·have:=h i
  rw [FJ,FR hi,← FJ]
  exact this
 ·by_cases e:i=l.length
  ·subst e
   simpa using ha
  ·rw [qI (by simp;omega)]
   exact F4 _
section
variable {gs:List Nat} [cw gs] [pf gs]
theorem ml (b:B3) (l:List As) (hv:-9223372036854775808≤b.1):c4 gs prog 3 [jA b,Ep l] (.c (.bool true)):=by
 refine ag 126 func3 fun _ _ _ _=>?_;refine dU ?_
 refine ay (cG 3 fun p1=>?_)
 refine U 6751 ?_
 refine ay (aD rU ?_)
 refine U 530 ?_;refine aX (fun h86=>?_) fun h86=>?_
 ·exfalso;exact absurd h86 T
 refine U 7810 ?_;refine jE (am 0 (m:=3) (F:=bN b) rfl T (fun _=>rfl) (fun j hj=>J.of_eq (bL _ hj))) ?_;refine dU ?_;refine gj (aI 3) ?_
 refine ay (aD (uv b) ?_)
 refine U 1 ?_;refine aS 21 (fun g89=>?_) fun g89=>?_
 ·refine U 51690005100000000444 ?_
  refine jR (hZ (d4 (hv:=cZ)))
 refine U 5500231 ?_;refine aX (fun h89=>?_) fun h89=>?_
 ·refine U 516 ?_
  refine jR (hZ (d4 (hv:=cZ)))
 refine U 810 ?_
 have hlo:gE b=false:=by simp_all
 have hll:l.length≤30:=by omega
 have hok:=zi hlo hv
 refine dU ?_;refine gj (aI 3) ?_
 refine ay (aD (li b (by have:=hok.len;omega)) ?_)
 refine ay (ce (n:=3) eQ rfl fun p2=>?_)
 refine aL (ak 3 (bN b) ?_ ?_)
 exact dV
 refine U 205131675 ?_;refine aG (α:=Nat×B3) [4,7,8,9,10,11,12,13,14,15,16,30,31,32,33,34,35,36,37,38,39,40,41,42,43,44,45,46,47,48,49,50,51,52,53,54,55,56,57,58,59,60,61,62,63,64,65,66,67,68,69,70,71,72,73,74,75,76,77,78,79,80,81,82,83,84,85,86,87,88,89,90,91,92,93,94,95,96,97,98,99,100,101,102,103,104,105,106,107,108,109,110,111,112,113,114,115,116,117,118,119,120,121,122,123,124,125] (fun (i,c)=>[(30,.c (.int .i64 (i:Nat)))]) (fun (i,c)=>[(p1,.blk 3 (bN c)),(p2,.blk 3 (bN c))]) (fun (i,c)=>i≤l.length∧Au c) (fun (i,c)=>l.length-i) ((0,b)) ?_ (fun _=>rfl) ?_ ?_ ?_
 exact ⟨F4 _,hok⟩
 exact .cons cZ .nil
 exact ar.refl _
 ·rintro ⟨i,c⟩ ⟨(hi:i≤l.length),hc⟩
  refine U 7526 ?_;refine aaa (fun h93=>?_) fun h93=>?_
  ·refine U 51684000200020006000 ?_
   refine jR d4
  refine U 7006207810 ?_;refine jq (bS 5) ?_
  refine ay (ce (n:=5) Ei rfl fun p3=>?_)
  refine aL (ak 5 (Ef (l.getD i (false,ae))) ?_ ?_)
  exact dV
  refine U 675 ?_;refine jq (cU 1 4 true) ?_;refine U 524000050100 ?_;refine aX (fun h94=>?_) fun h94=>?_
  ·refine U 516 ?_
   refine jR (hZ (sF (hZ (hZ (sF (hZ (d4 (hv:=cZ))))))))
  refine U 810 ?_
  generalize l.getD i (false,ae)=s at *
  have hsk:s.2.2.1.length≤100:=by omega
  have hcl:=hc.len
  have hck:=hc.key
  refine dU ?_;refine gj (aI 3) ?_
  refine ay (aD (li c O) ?_)
  refine ay (ce (n:=3) eQ rfl fun p4=>?_)
  refine aL (ak 3 (bN c) ?_ ?_)
  exact dV
  refine U 65 ?_;refine gj (aI 3) ?_;refine jq (cU 1 4 true) ?_;refine gj (aI 4) ?_
  refine ay (aD (yt c s.2 hc.lo hcl) ?_)
  refine U 9009001 ?_
  refine ay (ce (n:=3) jC rfl fun p5=>?_)
  refine aL (ak 3 (bN (cC c s.2).1) ?_ ?_)
  exact dV
  refine U 651 ?_;refine gj (aI 3) ?_;refine jq (cU 1 4 true) ?_;refine gj (aI 4) ?_
  refine ay (aD (qY c s.2 hc.lo O (yC (Ao (fun j=>by have:=hck j;omega) O))) ?_)
  refine U 9009001 ?_
  refine ay (ce (n:=3) eQ rfl fun p6=>?_)
  refine aL (ak 3 (bN (cC c s.2).1) ?_ ?_)
  exact dV
  refine U 51 ?_;refine ii (α:=B3×Nat) [10,12,55,56,57,58,59,60,61,62,63,64,65,66,67,68,69,70,71,72] (fun R=>[(10,.err R.2),(12,.c (.int .i64 (R.2:Nat)))]) (fun R=>[(p1,.blk 3 (bN c)),(p2,.blk 3 (bN c)),(p3,.blk 5 (Ef s)),(p4,.blk 3 (bN c)),(p5,.blk 3 (bN R.1)),(p6,.blk 3 (bN R.1))]) (fun R=>Au R.1∧R.2≤19) (fun _=>rfl) ?_ ?_
  ·refine U 550906 ?_;refine aaa (fun h100=>?_) fun h100=>?_
   ·refine U 810 ?_
    refine jg (cC c s.2) ?_ (h5:=?_) (h7:=?_)
    exact Bh
    exact .cons cZ (.cons cZ .nil)
    exact ar.refl _
   refine dU ?_;refine gj (aI 3) ?_;refine jq (cU 1 4 true) ?_;refine U 5090 ?_
   refine ay (aD (wl c s.2.1 hc.lo hcl) ?_)
   refine U 9009001 ?_
   refine aL (ak 3 (bN (eV c s.2.1).1) ?_ ?_)
   exact dV
   refine U 20051 ?_;refine gj (aI 3) ?_;refine jq (cU 1 4 true) ?_;refine U 5090 ?_
   refine ay (aD (tR c s.2.1 hc.lo O (fun j=>by have:=hck j;omega)) ?_)
   refine U 9009001 ?_
   refine aL (ak 3 (bN (eV c s.2.1).1) ?_ ?_)
   exact dV
   refine U 851 ?_
   refine jg (eV c s.2.1) ?_ (h5:=?_) (h7:=?_)
   exact BW
   exact .cons cZ (.cons cZ .nil)
   exact ar.refl _
  ·rintro R ⟨hR,hRe⟩
   refine jE (freeze 3 rfl) ?_;refine jE (freeze 4 rfl) ?_;refine jE (freeze 5 rfl) ?_;refine jE (f8 8 (m:=3) rfl rfl T) ?_;refine jE (f8 9 (m:=3) rfl rfl T) ?_;refine jE (f8 11 (m:=3) rfl rfl T) ?_;refine U 77 ?_;refine pZ (.rd 0 (.rd 2 (.one 1 (.rd 3 (.rd 4 (.rd 5 (.rd 7 (.one 6 (.one 8 (.rd 9 (.rd 10 (.rd 11 (.rd 12 (.rd 14 (.one 13 (.one 15 (.rd 16 (.rd 17 .done)))))))))))))))))) ?_;refine U 7070 ?_
   refine mA (aD (wu R.2 O) ?_)
   refine U 70800 ?_;refine oQ 77 (fun g104=>?_) fun g104=>?_
   ·refine U 600600 ?_;refine pY ?_;refine pY ?_;refine U 600600703000000600 ?_;refine pY ?_;refine pY ?_;refine U 8000300050003000300050003000700051690008803000000600 ?_
    exfalso
    (simp_all;done)
   refine eF (bS 3) ?_;refine eF (bS 3) ?_
   refine mA (aD (li R.1 (by have:=hR.len;omega)) ?_)
   refine mA (aD (lM R.1 R.1 (by have:=hR.len;omega)) ?_)
   refine U 70300000100000 ?_;refine oQ 84 (fun g104_2=>?_) fun g104_2=>?_
   ·refine U 600600 ?_;refine pY ?_;refine pY ?_;refine U 8000300050003000300050003000700051690008803000000600 ?_
    exfalso
    (simp_all;done)
   refine yc (aI 3) ?_;refine eF (bS 3) ?_
   refine mA (aD (li c O) ?_)
   refine mA (aD (lM c c O) ?_)
   refine U 880300000100000 ?_;refine aX (fun h104=>?_) fun h104=>?_
   ·refine U 80003000500030003000500030007000516 ?_
    exfalso
    (simp_all;done)
   refine U 810 ?_;refine ii (α:=B3) [91,92,93,94] (fun _=>[]) (fun c2=>[(p1,.blk 3 (bN c2)),(p2,.blk 3 (bN c2)),(p3,.blk 5 (Ef s))]) (fun c2=>Au c2) (fun _=>rfl) ?_ ?_
   ·refine U 5216 ?_;refine aaa (fun h107=>?_) fun h107=>?_
    ·refine U 810 ?_
     refine jg (c) ?_ (h5:=?_) (h7:=?_)
     exact hc
     exact .nil
     exact ar.refl _
    refine ko (.rd 0 (.rd 1 (.one 2 (.one 3 .done)))) ?_;refine cD (bS 3) ?_;refine cD (bS 3) ?_
    refine fT (ak 3 (bN R.1) ?_ ?_)
    exact dV
    refine fT (ak 3 (bN R.1) ?_ ?_)
    exact dV
    refine U 8700000 ?_
    refine jg (R.1) ?_ (h5:=?_) (h7:=?_)
    exact hR
    exact .nil
    exact ar.refl _
   ·rintro c2 hc2
    refine dU ?_;refine gj (aI 3) ?_;refine jq (cU 1 4 true) ?_;refine U 50100 ?_;refine jq (cU 1 4 true) ?_;refine U 5090 ?_
    refine ay (aD (zI c2 s.2.2.1 s.2.1) ?_)
    refine U 9009001 ?_
    refine ay (ce (n:=4) iq rfl fun p7=>?_)
    refine aL (ak 4 (cc (eL c2 s.2.2.1 s.2.1).1) ?_ ?_)
    exact dV
    refine U 651 ?_;refine gj (aI 3) ?_;refine jq (cU 1 4 true) ?_;refine U 50100 ?_;refine jq (cU 1 4 true) ?_;refine U 5090 ?_
    refine ay (aD (rb c2 s.2.2.1 s.2.1 (by have:=hc2.len;omega)) ?_)
    refine U 9009001 ?_
    refine ay (ce (n:=4) cg rfl fun p8=>?_)
    refine aL (ak 4 (cc (eL c2 s.2.2.1 s.2.1).1) ?_ ?_)
    exact dV
    refine U 120000011651 ?_;refine aS 120 (fun g112=>?_) fun g112=>?_
    ·refine U 800030005000300030005000700051690005100000000444 ?_
     exfalso
     (simp_all;done)
    refine gj (aI 4) ?_;refine gj (aI 4) ?_;refine jq (pD rfl rfl rfl underlying42 (by kernel_rfl) (by kernel_rfl) (.int underlying3 T rfl rfl (.str underlying9 T rfl rfl (.int underlying3 T rfl rfl (.int underlying3 T rfl rfl .nil)))) rfl) ?_;refine U 5500 ?_;refine aX (fun h112=>?_) fun h112=>?_
    ·refine U 8000300050003000300050007000516 ?_
     exfalso
     (simp_all;done)
    refine U 8519200840010 ?_
    refine aH ((i+1,c2)) ?_ ?_ (h5:=?_) (h7:=?_)
    exact ⟨show i+1≤l.length by omega,hc2⟩
    show l.length-(i+1)<l.length-i;omega
    exact .cons (cI O) .nil
    exact ar.refl _
end
end
section
open Go.RowKit Go.ChangeShapes
def jy (P:Program) (t:TypeId) (k:Nat) (D:Type) (φ:D→Prop) (E:D→Nat→CV):Prop :=
 ∀ (H:Type) (enc:TypeId×Value→H) (W:World) (fuel:Nat) (cs:List Value) (y:DataW H×List MemPlace),DataW.trod enc P W 0 (fun _=>true) true fuel t cs=some y →
  cs.length=k∧∃ x:D,φ x∧∀ al j,j<k→ai al (fun b=>b<W.heap.size) W (E x j) (cs.getD j undef)
section
variable {P:Program} {t:TypeId}
theorem gB {al:List Addr} {W:World} {St:Nat→Prop} {c:Nat→CV} {v:Value} (h:ai al St W (c 0) v):∀ j,j<1→ai al St W (c j) ([v].getD j undef):=fun j hj=>by
 obtain rfl:j=0:=by omega
 exact h
theorem dB (hu:P.underlying t=some (.int .i64)):jy P t 1 Int (fun z=>-9223372036854775808≤z∧z≤9223372036854775807) (fun z _=>.c (.int .i64 z)):=fun H enc W fuel cs y h=>by
 obtain ⟨n,rfl,_,hw⟩:=DataW.trod_int hu h
 exact ⟨rfl,n,bounds_i64 hw,fun al=>gB rfl⟩
theorem rh (hu:P.underlying t=some .bool):jy P t 1 Bool (fun _=>True) (fun z _=>.c (.bool z)):=fun H enc W fuel cs y h=>by
 obtain ⟨n,rfl,_⟩:=DataW.trod_bool hu h
 exact ⟨rfl,n,trivial,fun al=>gB rfl⟩
theorem kM {e:TypeId} {k:Nat} {D:Type} {φ:D→Prop} {E:D→Nat→CV} (d0:D) (ho:jy P e k D φ E) (hu:P.underlying t=some (.slice e)) (hk:P.cellsOf e=k) (hk0:0<k) :
  jy P t 1 (List D) (fun l=>l.length≤maxLen∧∀ x ∈ l,φ x) (fun l _=>.rs k l.length fun i j=>E (l.getD i d0) j):=fun H enc W fuel cs y h=>by
 rcases DataW.trod_slice hu h with ⟨rfl,_⟩|⟨a,len,cap,elems,rest,n,_,rfl,_,_,hle,hm,hl,hel,_⟩
 ·exact ⟨rfl,[],⟨by simp,by simp⟩,fun al=>gB ⟨none,0,rfl,FQ _,by decide,fun _=>rfl,fun _ h=>by cases h⟩⟩
 ·refine ⟨rfl,?_⟩
  subst hk
  have key:∀ i,∃ x:D,i<len→φ x∧∀ al j,j<P.cellsOf e→∃ v,W.cell? (a.add (i * P.cellsOf e+j))=some v∧ai al (fun b=>b<W.heap.size) W (E x j) v:=fun i=>by
   by_cases hi:i<len
   ·have h1:=hel i hi
    rw [FW O] at h1
    have ⟨cs,h2,h3⟩:=HX.1 h1
    obtain ⟨_,h4,h5⟩:=World.cells?_some h2
    obtain ⟨_,x,I,hr⟩:=ho H enc W n cs _ h3
    refine ⟨x,fun _=>⟨I,fun al j hj=>⟨cs.getD j undef,?_,hr al j hj⟩⟩⟩
    have:=h5 j hj
    rw [Addr.add_add] at this
    rw [this]
    simp [h4,hj]
   exact ⟨d0,fun h=>absurd h hi⟩
  obtain ⟨F,hF⟩:∃ F:Nat→D,∀ i,i<len→φ (F i)∧∀ al j,j<P.cellsOf e→∃ v,W.cell? (a.add (i * P.cellsOf e+j))=some v∧ai al (fun b=>b<W.heap.size) W (E (F i) j) v :=
   ⟨fun i=>(key i).choose,fun i hi=>(key i).choose_spec hi⟩
  have hm':cap≤9223372036854775807:=by unfold maxLen at hm;omega
  refine ⟨(List.range len).map F,⟨by simp;omega,by simp only [List.mem_map,GD];rintro x ⟨i,hi,rfl⟩;exact (hF i hi).1⟩,fun al=>gB ?_⟩
  refine ⟨some a,cap,by simp,by simpa using hle,hm',by simp,fun b hb hn=>?_⟩
  cases hb
  simp at hn
  obtain ⟨v0,hv0,_⟩:=(hF 0 hn).2 al 0 hk0
  have hsp:a.spot=none:=by
   have:=World.cell?_spot hv0
   have ⟨b,o,sp⟩:=a
   simpa [Addr.add] using this
  refine ⟨hsp,?_,fun i j hi hj=>?_⟩
  ·have:=World.block_lt_of_cell? W _ hv0
   have ⟨b,o,sp⟩:=a
   simpa [Addr.add] using this
  ·simp at hi
   obtain ⟨v,hv,hr⟩:=(hF i hi).2 al j hj
   refine ⟨v,?_,by simpa [List.getD,hi] using hr⟩
   have ⟨b,o,sp⟩:=a
   simp only at hsp
   subst hsp
   rwa [Addr.add_lit] at hv
def pa (P:Program) (fs:List Field) (D:Type) (φ:D→Prop) (E:D→Nat→CV) (C:Nat→Bool):Prop :=
 ∀ (H:Type) (enc:TypeId×Value→H) (W:World) (cs:List Value),(∀ f ∈ fs,∃ n y,DataW.trod enc P W 0 (fun _=>true) true n f.type ((cs.drop f.offset).take (P.cellsOf f.type))=some y) →
  ∃ x:D,φ x∧∀ al j,C j=true→ai al (fun b=>b<W.heap.size) W (E x j) (cs.getD j undef)
theorem fP:pa P [] Unit (fun _=>True) (fun _ _=>.top) (fun _=>false):=fun H enc W cs _=>⟨(),trivial,fun al j h=>by cases h⟩
theorem aM {f:Field} {fs:List Field} {k:Nat} {D1 D2:Type} {φ1:D1→Prop} {φ2:D2→Prop} {E1:D1→Nat→CV} {E2:D2→Nat→CV} {C2:Nat→Bool} (h1:jy P f.type k D1 φ1 E1) (h2:pa P fs D2 φ2 E2 C2) :
  pa P (f::fs) (D1×D2) (fun x=>φ1 x.1∧φ2 x.2) (fun x j=>match Nat.ble f.offset j && Nat.blt j (f.offset+k) with|true=>E1 x.1 (j-f.offset)|false=>E2 x.2 j) (fun j=>(Nat.ble f.offset j && Nat.blt j (f.offset+k)) || C2 j):=fun H enc W cs h=>by
 obtain ⟨n,y,hy⟩:=h f (F2 ..)
 obtain ⟨hl,x1,p1,r1⟩:=h1 H enc W n _ y hy
 obtain ⟨x2,p2,r2⟩:=h2 H enc W cs fun g hg=>h g (F9 _ hg)
 refine ⟨(x1,x2),⟨p1,p2⟩,fun al j hj=>?_⟩
 cases hb:Nat.ble f.offset j && Nat.blt j (f.offset+k) with
 | true =>
  have hb0:=hb
  simp only [FK] at hb
  have b1:f.offset≤j:=FS hb.1
  have b2:j<f.offset+k:=FS hb.2
  have:=r1 al (j-f.offset) O
  simp only [F6,Gk] at hl
  rw [FJ,Hj,jP,G9,show f.offset+(j-f.offset)=j by omega,← FJ] at this
  simp only [hb0]
  exact this
 | false =>
  simp only [hb,Bool.false_or] at hj
  simp only [hb]
  exact r2 al j hj
theorem eb {fs:Array Field} {n:Nat} {D:Type} {φ:D→Prop} {E:D→Nat→CV} {C:Nat→Bool} (hu:P.underlying t=some (.struct fs)) (hn:P.cellsOf t=n) (ho:pa P fs.toList D φ E C) (hC:(List.range n).all C=true):jy P t n D φ E:=fun H enc W fuel cs y h=>by
 have ⟨xs,m,_,_,hl,hlen,hf⟩:=DataW.trod_struct hu h
 obtain ⟨x,I,hr⟩:=ho H enc W cs fun f hf'=>by
  have ⟨i,hi⟩:=Hb.1 hf'
  rw [Hr] at hi
  have:=hf i f hi
  have hlt:i<xs.length:=by rw [hlen];exact (FY.1 hi).1
  rw [FW hlt] at this
  exact ⟨m,_,this⟩
 exact ⟨hl.trans hn,x,I,fun al j hj=>hr al j (F5.1 hC j (GD.2 hj))⟩
theorem Al {D:Type} {φ:D→Prop} {E:D→Nat→CV} (ho:jy P t 1 D φ E) {H:Type} {enc:TypeId×Value→H} {W:World} {v:Value} {d:DataW H} {p:List MemPlace} (hv:v.cells=#[v]) (h:DataW.Trod enc P W 0 (fun _=>true) true t v d p) :
  ∃ x:D,φ x∧∀ al,ai al (fun b=>b<W.heap.size) W (E x 0) v:=by
 have ⟨fuel,hf⟩:=h
 obtain ⟨_,x,I,hr⟩:=ho H enc W fuel _ _ hf
 refine ⟨x,I,fun al=>?_⟩
 have:=hr al 0 T
 rw [hv] at this
 exact this
theorem An {n:Nat} {D:Type} {φ:D→Prop} {E:D→Nat→CV} (ho:jy P t n D φ E) {H:Type} {enc:TypeId×Value→H} {W:World} {cs:Array Value} {d:DataW H} {p:List MemPlace} (h:DataW.Trod enc P W 0 (fun _=>true) true t (.agg cs) d p) :
  ∃ x:D,φ x∧∀ al,ai al (fun b=>b<W.heap.size) W (.agg n (E x)) (.agg cs):=by
 have ⟨fuel,hf⟩:=h
 obtain ⟨hl,x,I,hr⟩:=ho H enc W fuel _ _ hf
 refine ⟨x,I,fun al=>⟨cs,rfl,by simpa [Value.cells] using hl,fun i hi=>?_⟩⟩
 have:=hr al i hi
 simpa [Value.cells] using this
end
end
section
open Go.RowKit Go.ChangeShapes
theorem iL {P:Program} {t:TypeId} (hu:P.underlying t=some .string):jy P t 1 V (fun s=>s.length≤maxLen) (fun z _=>bi z):=fun H enc W fuel cs y h=>by
 obtain ⟨n,rfl,_,hs⟩:=DataW.trod_string hu h
 obtain ⟨l,rfl⟩:=Ah n
 exact ⟨rfl,l,hs,fun al=>gB rfl⟩
theorem pU {α β:Type} (f:α→β) (l:List α) {i:Nat} (d0:α) (d1:β) (h:i<l.length):(l.map f).getD i d1=f (l.getD i d0):=by simp [List.getD,h]
end
end Am
end Go.Proofs.YtnijncmifjnifaaGreatDoor
