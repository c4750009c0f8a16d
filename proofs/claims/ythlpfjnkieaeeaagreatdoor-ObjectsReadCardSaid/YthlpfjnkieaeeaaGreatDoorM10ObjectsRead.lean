/- What the law leans on, part 10: W05h, W06c, P06c, W06d, W06e, W08g, W08h, W08p, P08r, P08c, P08d, P08h, P08i, P08m, P08f, W09n, W09o -/
import Derived.Test.YthlpfjnkieaeeaaGreatDoorM9ObjectsRead

set_option maxRecDepth 100000
namespace Go.Proofs.YthlpfjnkieaeeaaGreatDoor
set_option linter.unusedVariables false
namespace Am
open Go.RowKit
section
variable {gs:List Nat} [fZ gs]

theorem uI {b:List UInt8} {k:Nat} (hk:k<(bJ b).length):(eQ b).getD k (0,0)=dC ((bJ b).getD k []) (if k=0 then 2147483727 else 2147483647):=Af _ _ _ hk
theorem Ad {b:List UInt8} {k:Nat} (hk:k<(bJ b).length):(((eQ b).take (k+1)).map (·.1))=(((eQ b).take k).map (·.1))++[((eQ b).getD k (0,0)).1]:=by
 rw [jp (0,0) (by rw [lW];exact hk),List.map_append];rfl
theorem LD (r:List UInt8) (most:Nat):(dC r most).1≤most:=by
 unfold dC
 split
 ·exact Nat.zero_le _
 split
 ·exact Nat.zero_le _
 split
 ·exact Nat.zero_le _
 ·show cA r≤most;omega
theorem KE {a b c d:Int} (h1:a=c) (h2:b=d):∀ j,j<[c,d].length→ab (fl [.c (.int .i64 a),.c (.int .i64 b)] j) (kQ [c,d] j):=fun j hj=>by
 rcases j with _|_|j
 ·exact cI h1
 ·exact cI h2
 ·exact absurd hj (by simp)
section
variable {b:List UInt8} {k:Nat} {X:List Int}
theorem M7 (hk:k<(bJ b).length) (h0:0<k) (herr:eU ((eQ b).take k)=0) (h:(dC ((bJ b).getD k []) 2147483647).2≠0):(dC ((bJ b).getD k []) 2147483647).2=eU (eQ b):=by
 have hat:=uI hk
 rw [jK] at hat
 rw [← hat] at h ⊢
 exact (Bg (by rw [lW];exact hk) herr h).symm
theorem M8 (hk:k<(bJ b).length) (h0:k=0) (herr:eU ((eQ b).take k)=0) (h:(dC ((bJ b).getD k []) 2147483727).2≠0):(dC ((bJ b).getD k []) 2147483727).2=eU (eQ b):=by
 have hat:=uI hk
 rw [if_pos h0] at hat
 rw [← hat] at h ⊢
 exact (Bg (by rw [lW];exact hk) herr h).symm
theorem QB (hk:k<(bJ b).length) (h0:0<k) (herr:eU ((eQ b).take k)=0) (h:(dC ((bJ b).getD k []) 2147483647).2≠0):eU (eQ b)≠0:=by
 rw [← M7 hk h0 herr h];exact h
theorem QC (hk:k<(bJ b).length) (h0:k=0) (herr:eU ((eQ b).take k)=0) (h:(dC ((bJ b).getD k []) 2147483727).2≠0):eU (eQ b)≠0:=by
 rw [← M8 hk h0 herr h];exact h
theorem Pq (hk:k<(bJ b).length) (h0:0<k) (hX:X=cw (((eQ b).take k).map (·.1))) (herr:eU ((eQ b).take k)=0) (h:(dC ((bJ b).getD k []) 2147483647).2=0):X++[((dC ((bJ b).getD k []) 2147483647).1:Int)]=cw (((eQ b).take (k+1)).map (·.1))∧eU ((eQ b).take (k+1))=0:=by
 have hat:=uI hk
 rw [jK] at hat
 have hkR:k<(eQ b).length:=by rw [lW];exact hk
 refine ⟨?_,by rw [Bf hkR herr,hat,h]⟩
 rw [Ad hk,hat,Gw _ (fun e=>by have:=congrArg List.length e;rw [List.length_map,List.length_take,List.length_nil] at this;omega),hX]
theorem Pr (hk:k<(bJ b).length) (h0:k=0) (herr:eU ((eQ b).take k)=0) (h:(dC ((bJ b).getD k []) 2147483727).2=0):[((min ((dC ((bJ b).getD k []) 2147483727).1 / 40) 2:Nat):Int),((dC ((bJ b).getD k []) 2147483727).1:Int)-40 * ((min ((dC ((bJ b).getD k []) 2147483727).1 / 40) 2:Nat):Int)]=cw (((eQ b).take (k+1)).map (·.1))∧eU ((eQ b).take (k+1))=0:=by
 have hat:=uI hk
 rw [if_pos h0] at hat
 have hkR:k<(eQ b).length:=by rw [lW];exact hk
 refine ⟨?_,by rw [Bf hkR herr,hat,h]⟩
 rw [Ad hk,hat,h0]
 rfl
end
set_option maxHeartbeats 1000000 in
theorem Lx (b:List UInt8) (hb:b.length≤1000000):bM gs Tryz.prog 260 [bu b] (.tup 2 (fl [au (dM b).1,.err (dM b).2])):=by
 have hrl:=He b.length b (Nat.le_refl _)
 have hRl:=lW b
 refine ai 54 Tryz.func260 fun al w0 F0 St0=>?_;refine cy ?_
 refine ak (bD (n:=1) Kg rfl fun p1=>?_)
 refine ak (bD (n:=1) OI rfl fun p2=>?_)
 refine jU 5231675 ?_;refine aq (fun h116=>?_) fun h116=>?_
 ·refine iy ?_;refine jI (.rd 0 (.one 1 (.one 2 .done))) ?_;refine ig (dy 1) ?_
  refine iL (ax 1 ?_)
  refine iL (ax 1 ?_)
  refine jU 8700000 ?_
  refine jR (ii (cX (hres:=bH rfl tI tI) (hv:=?_)))
  have h0:dM b=([],2):=by rw [List.length_eq_zero_iff.1 (show b.length=0 by omega),L7]
  exact cT (ab.strL (by rw [h0])) (ab.errN (by rw [h0]))
 refine jU 810 ?_
 have hne:b≠[]:=fun e=>by subst e;simp_all
 refine cy ?_
 refine ak (bD (n:=1) GC rfl fun p3=>?_)
 refine jU 1675 ?_
 refine ak (su (KS b) ?_)
 rintro _ _ ⟨gS,rfl,rfl⟩
 refine jU 205 ?_;refine jE (gB 0 (m:=1) (F:=fun _=>au []) rfl (Nat.le_refl _) (fun _=>rfl) (fun j hj=>by obtain rfl:j=0:=jO;exact cZ)) ?_;refine jE (gB 1 (m:=1) (F:=fun _=>.c .nilIface) rfl (Nat.le_refl _) (fun _=>rfl) (fun j hj=>by obtain rfl:j=0:=jO;exact cZ)) ?_;refine jE (gB 2 (m:=1) (F:=fun _=>.os 3 none 0 0 1) rfl (Nat.le_refl _) (fun _=>rfl) (fun j hj=>by obtain rfl:j=0:=jO;exact ab.nilO)) ?_;refine jE (gv (kQ [])) ?_;refine vU (π:=List Int×Option Nat) (q:=List Int×Option Nat) ((bJ b).length) (fun k=>[bu ((bJ b).getD k [])]) ([(gS,.blk 1 (fun _=>bu b))]) (fun (X,ga)=>[(p1,.blk 1 (fun _=>au [])),(p2,.blk 1 (fun _=>.c .nilIface)),(p3,.blk 1 (fun _=>.os 3 ga 0 X.length 1)),(ga,.blk X.length (kQ X))]) (fun k (X,ga)=>X=cw (((eQ b).take k).map (·.1))∧eU ((eQ b).take k)=0) (fun (X,ga)=>[(p1,.blk 1 (fun _=>au [])),(p2,.blk 1 (fun _=>.err (eU (eQ b)))),(p3,.blk 1 (fun _=>.os 3 ga 0 X.length 1)),(ga,.blk X.length (kQ X))]) (fun c _=>c=.ret∧eU (eQ b)≠0) (([],none)) [3,0,1,2,4] rfl rfl (by kernel_rfl) (EK b gS jO) (⟨rfl,rfl⟩) jD rfl (fun _ _=>rfl) rfl ?_ ?_ ?_
 ·intro k hk l al2 w2 F2 S2 R0 R1
  rintro ⟨X,ga⟩ ⟨hX,herr⟩
  have hXl:=Ka (((eQ b).take k).map (·.1))
  rw [← hX,List.length_map,List.length_take] at hXl
  have hkR:k<(eQ b).length:=by omega
  have hrun:0<((bJ b).getD k []).length:=Hd b.length b (Nat.le_refl _) _ (de [] hk)
  have hat:=uI hk
  have hX0:X.length>0↔0<k:=⟨fun h=>Nat.pos_of_ne_zero fun e=>by subst e;rw [hX] at h;simp [cw] at h,fun h=>by have:=hXl.2 (fun e=>by have:=congrArg List.length e;rw [List.length_map,List.length_take,List.length_nil] at this;omega);omega⟩
  refine jU 51200 ?_;refine tB ?_;refine jU 523506720 ?_;refine aq (fun h121=>?_) fun h121=>?_
  ·refine jU 16 ?_
   refine ak (ap (xm ((bJ b).getD k []) 2147483647 hrun jO) ?_)
   refine jU 55000001675119009001 ?_;refine aq (fun h123=>?_) fun h123=>?_
   ·refine jU 16 ?_
    refine ar (ax 1 ?_)
    refine ar (ax 1 ?_)
    refine jU 50003000300070005 ?_;refine oU ((X,ga)) ?_ rfl ?_
    ·exact ⟨rfl,QB hk jO herr (by assumption)⟩
    ·exact .blk rfl (fun j hj=>by obtain rfl:j=0:=jO;exact cZ) (.blk rfl (fun j hj=>by obtain rfl:j=0:=jO;exact ab.errN (M7 hk jO herr (by assumption)).symm) (.same (.same (.same .nil))))
   refine jU 1506810 ?_
   refine ak (aU 1 1 nj fun p4=>?_)
   refine ar (av fS (l2:=[((dC ((bJ b).getD k []) 2147483647).1:Int)]) rfl rfl rfl rfl (by exact Nat.le_of_eq (Nat.mul_one _)) (fun _ _=>cZ) (aY rfl (.inl rfl) jD) rfl (lz (.cons (cI (rfl)) .nil)) Tryz.underlying137 lw uq nj Eh rfl (by (simp;omega)) (by (simp;omega)) (bi rfl rfl) rfl rfl (Nat.mul_one _) (fun p5=>?_))
   refine ar (ax 1 ?_)
   refine jU 4000200060005 ?_;refine pR ((X++[((dC ((bJ b).getD k []) 2147483647).1:Int)],p5)) ?_ rfl ?_
   ·exact Pq hk jO hX herr jO
   ·exact .same (.same (.blk rfl (fun j hj=>by obtain rfl:j=0:=jO;exact cZ) (.same (.same .nil))))
  refine jU 16810 ?_
  refine ak (ap (xm ((bJ b).getD k []) 2147483727 hrun jO) ?_)
  refine jU 55000001675119009001 ?_;refine aq (fun h130=>?_) fun h130=>?_
  ·refine jU 16 ?_
   refine ar (ax 1 ?_)
   refine ar (ax 1 ?_)
   refine jU 5000300070005 ?_;refine oU ((X,ga)) ?_ rfl ?_
   ·exact ⟨rfl,QC hk jO herr (by assumption)⟩
   ·exact .blk rfl (fun j hj=>by obtain rfl:j=0:=jO;exact cZ) (.blk rfl (fun j hj=>by obtain rfl:j=0:=jO;exact ab.errN (M8 hk jO herr (by assumption)).symm) (.same (.same (.same .nil))))
  refine jU 810 ?_
  have hbd:=LD ((bJ b).getD k []) 2147483727
  refine jU 60000016 ?_;refine jq (Lc rfl rfl rfl) ?_;refine jU 9911120051 ?_
  refine ak (aU 2 1 nj fun p4=>?_)
  refine bg (dB [0,1,2,5,4] jD rfl) ?_
  refine ar (ax 1 ?_)
  refine jU 4005 ?_;refine pR (([((min ((dC ((bJ b).getD k []) 2147483727).1 / 40) 2:Nat):Int),((dC ((bJ b).getD k []) 2147483727).1:Int)-40 * ((min ((dC ((bJ b).getD k []) 2147483727).1 / 40) 2:Nat):Int)],p4)) ?_ rfl ?_
  ·exact Pr hk jO herr jO
  ·exact .same (.same (.blk rfl (fun j hj=>by obtain rfl:j=0:=jO;exact cO rfl) (.blk rfl (KE jO jO) (.same .nil))))
 ·rintro ⟨X,ga⟩ ⟨hX,herr⟩
  rw [List.take_of_length_le jO] at hX herr
  refine jU 5068400 ?_;refine bg (freeze 3 rfl) ?_;refine bg (mr 50 X rfl rfl rfl (Nat.ble_eq_true_of_le (Nat.le_refl _)) (fun j hj=>cZ)) ?_
  refine ak (ap (H3 X) ?_)
  refine jU 900900 ?_
  refine ar (ax 1 ?_)
  refine ar (ax 1 ?_)
  refine jU 5 ?_
  refine jR (cX (hres:=bH rfl tI tI) (hv:=?_))
  have hg:=IY hne herr
  rw [← hX] at hg
  exact cT (ab.strL (by rw [hg])) (ab.errN (by rw [hg]))
 ·rintro _ ⟨X,ga⟩ ⟨rfl,hbad⟩
  refine .inl ⟨rfl,?_⟩
  refine yY (ii (cX (hres:=bH rfl tI tI) (hv:=?_)))
  have hb:=L8 hne hbad
  exact cT (ab.strL (by rw [hb])) (ab.errN (by rw [hb]))
end
section
variable {gs:List Nat} [fZ gs]
open Go.RowKit Cal
set_option linter.unusedVariables false

theorem Gu {gs:List Nat} (y:Int) (h1:1970≤y) (h2:y≤9999):bM gs Tryz.prog 266 [.c (.int .i64 y)] (.c (.int .i64 (bf y))):=by
 refine ai 17 Tryz.func266 fun al w0 F0 St0=>?_;refine jU 205167516516 ?_;refine aF (α:=Nat) [3,4,5,6,7,8,9,10,11,12,13,14,15] (fun i=>[(3,.c (.int .i64 (bf (1970+i)))),(4,.c (.int .i64 (1970+i)))]) (fun _=>[]) (fun i=>1970+(i:Int)≤y) (fun i=>(y-1970-i).toNat) (0) ?_ (fun _=>rfl) ?_ ?_ ?_
 ·show 1970+((0:Nat):Int)≤y;omega
 ·exact .cons (cI rC.symm) (.cons cZ .nil)
 ·(repeat (exact aS.nil))
 ·rintro i (hi:1970+(i:Int)≤y)
  have hb:=JY (1970+i) jO jO
  have hs:=zl (1970+i)
  refine jU 521167 ?_;refine aq (fun h33=>?_) fun h33=>?_
  rotate_left
  ·refine jU 80007000511684000200020006000 ?_
   have e:y=1970+i:=by omega
   rw [e]
   exact cZ
  refine jU 1651916207810 ?_
  refine ak (ap (uG _) ?_)
  refine jU 5 ?_;refine aq (fun h35=>?_) fun h35=>?_
  rotate_left
  ·refine jU 85191200840010 ?_
   refine aw (i+1) ?_ ?_ (h5:=?_)
   ·omega
   ·omega
   ·refine .cons (cI ?_) (.cons (cI jO) .nil)
    show _=bf (1970+((i+1:Nat):Int))
    rw [show (1970:Int)+((i+1:Nat):Int)=1970+i+1 by omega,hs]
    simp only [*,Bool.false_eq_true,if_false]
    all_goals omega
  refine jU 8519120084005191200 ?_
  refine aw (i+1) ?_ ?_ (h5:=?_)
  ·omega
  ·omega
  ·refine .cons (cI ?_) (.cons (cI jO) .nil)
   show _=bf (1970+((i+1:Nat):Int))
   rw [show (1970:Int)+((i+1:Nat):Int)=1970+i+1 by omega,hs]
   simp only [*,if_true]
   all_goals omega
theorem B4 {g:List Nat} (x:D6):bM g Tryz.prog 246 [vQ x] (.c (.bool (decide (bE x)))):=by
 refine ai 66 Tryz.func246 fun al w0 F0 St0=>?_;refine cy ?_
 refine ak (cE 6 fun p1=>?_)
 refine jU 751 ?_;refine ff (.rd 0 (.rd 1 (.rd 2 (.rd 3 (.rd 4 (.rd 5 (.rd 6 (.rd 7 (.rd 8 (.rd 9 (.rd 10 (.rd 11 (.rd 12 (.rd 13 (.rd 14 (.rd 15 (.rd 16 (.rd 17 (.rd 18 (.rd 19 (.rd 20 (.rd 21 (.rd 22 (.rd 23 (.rd 24 (.rd 25 (.rd 26 (.rd 27 (.rd 28 (.rd 29 (.one 30 (.rd 31 (.rd 32 (.rd 33 (.rd 34 (.rd 35 (.rd 36 (.rd 37 (.rd 38 (.rd 39 (.rd 40 (.rd 41 (.rd 42 (.rd 43 (.rd 44 (.rd 45 (.rd 46 (.rd 47 (.rd 48 (.rd 49 (.rd 50 (.rd 51 (.rd 52 (.rd 53 (.rd 54 (.rd 55 (.rd 56 (.rd 57 (.rd 58 (.rd 59 (.rd 60 (.rd 61 (.rd 62 (.rd 63 .done)))))))))))))))))))))))))))))))))))))))))))))))))))))))))))))))) ?_;refine jU 7080010000900000 ?_;refine gG 6 (fun g44=>?_) fun g44=>?_
 rotate_left
 ·refine jU 60060060060060060070300000600600600703000006006006007030000060060060070300000600600600 ?_;refine pY ?_;refine jU 8000700088070300000600600600703000006006006007030000060060060070300000600600600703000006006006007030000060060060070300000600 ?_;refine cB ?_
  have qd:=@cM x.y x.m x.d
  (simp [bE, *];done)
 refine jU 70300000080010000900000 ?_;refine gG 11 (fun g44_2=>?_) fun g44_2=>?_
 rotate_left
 ·refine jU 600600600600600600703000006006006007030000060060060070300000600600600 ?_;refine pY ?_;refine jU 8000700088070300000600600600703000006006006007030000060060060070300000600600600703000006006006007030000060060060070300000600 ?_;refine cB ?_
  have qd:=@cM x.y x.m x.d
  (simp [bE, *];done)
 refine jU 703000000800100008000000 ?_;refine gG 16 (fun g44_3=>?_) fun g44_3=>?_
 rotate_left
 ·refine jU 6006006006006006007030000060060060070300000600600600 ?_;refine pY ?_;refine jU 8000700088070300000600600600703000006006006007030000060060060070300000600600600703000006006006007030000060060060070300000600 ?_;refine cB ?_
  have qd:=@cM x.y x.m x.d
  (simp [bE, *];omega)
 refine jU 703000000800100008000000 ?_;refine gG 21 (fun g44_4=>?_) fun g44_4=>?_
 rotate_left
 ·refine jU 60060060060060060070300000600600600 ?_;refine pY ?_;refine jU 8000700088070300000600600600703000006006006007030000060060060070300000600600600703000006006006007030000060060060070300000600 ?_;refine cB ?_
  have qd:=@cM x.y x.m x.d
  (simp [bE, *];omega)
 refine bV (da 2 1 false) ?_;refine jU 70300000080010000 ?_;refine gG 26 (fun g44_5=>?_) fun g44_5=>?_
 rotate_left
 ·refine jU 600600600600600600 ?_;refine pY ?_;refine jU 8000700088070300000600600600703000006006006007030000060060060070300000600600600703000006006006007030000060060060070300000600 ?_;refine cB ?_
  have qd:=@cM x.y x.m x.d
  (simp [bE, *];done)
 refine bV (da 2 1 false) ?_;refine jU 1000080000001000090000010000 ?_
 refine kO (ap (lY _ _) ?_)
 refine jU 703000000800 ?_;refine gG 36 (fun g44_6=>?_) fun g44_6=>?_
 rotate_left
 ·refine jU 80007000880703000006006006007030000060060060070300000600600600703000006006006007030000060060060070300000600600600 ?_;refine cB ?_
  have qd:=@cM x.y x.m x.d
  (simp [bE, *];done)
 refine bV (da 3 1 false) ?_;refine jU 70300000080010000 ?_;refine gG 41 (fun g44_7=>?_) fun g44_7=>?_
 rotate_left
 ·refine jU 800070008807030000060060060070300000600600600703000006006006007030000060060060070300000600600600 ?_;refine cB ?_
  have qd:=@cM x.y x.m x.d
  (simp [bE, *];done)
 refine bV (da 3 1 false) ?_;refine jU 70300000080010000 ?_;refine gG 46 (fun g44_8=>?_) fun g44_8=>?_
 rotate_left
 ·refine jU 8000700088070300000600600600703000006006006007030000060060060070300000600600600 ?_;refine cB ?_
  have qd:=@cM x.y x.m x.d
  (simp [bE, *];omega)
 refine bV (da 4 1 false) ?_;refine jU 70300000080010000 ?_;refine gG 51 (fun g44_9=>?_) fun g44_9=>?_
 rotate_left
 ·refine jU 80007000880703000006006006007030000060060060070300000600600600 ?_;refine cB ?_
  have qd:=@cM x.y x.m x.d
  (simp [bE, *];done)
 refine bV (da 4 1 false) ?_;refine jU 70300000080010000 ?_;refine gG 56 (fun g44_10=>?_) fun g44_10=>?_
 rotate_left
 ·refine jU 800070008807030000060060060070300000600600600 ?_;refine cB ?_
  have qd:=@cM x.y x.m x.d
  (simp [bE, *];omega)
 refine bV (da 5 1 false) ?_;refine jU 70300000080010000 ?_;refine gG 61 (fun g44_11=>?_) fun g44_11=>?_
 ·refine bV (da 5 1 false) ?_;refine jU 8000700088070300000080010000 ?_;refine cB ?_
  have qd:=@cM x.y x.m x.d
  (refine decide_eq_decide.2 ?_;unfold bE;omega)
 refine jU 8000700088070300000600600600 ?_;refine cB ?_
 have qd:=@cM x.y x.m x.d
 (simp [bE, *];done)
theorem Hh {g:List Nat} (x:D6) (hr:bE x):bM g Tryz.prog 247 [vQ x] (.c (.int .i64 (my x))):=by
 obtain ⟨q1,q2,q3,q4,q5,q6,q7,q8,q9,q10⟩:=id hr
 have qm:=cM q3 q4
 have qd:=lB x.y x.m
 have qb:=JY x.y q1 jO
 have qs:=yq hr
 refine ai 37 Tryz.func247 fun al w0 F0 St0=>?_;refine cy ?_
 refine ak (cE 6 fun p1=>?_)
 refine jU 751 ?_;refine ff (.rd 0 (.rd 1 (.rd 3 (.rd 4 (.one 2 (.rd 5 (.rd 6 (.rd 7 .done)))))))) ?_;refine jU 10000900000 ?_;refine bV (da 2 1 false) ?_;refine Ki mS ?_
 refine kO (ap (Gu _ q1 q2) ?_)
 refine jU 205167880703000030000 ?_;refine aF (α:=Nat) [3,4,12,13,14,15,16,17,18,19,20,21,22,23] (fun i=>[(3,.c (.int .i64 (bf x.y+x.d-1+pA x.y (1+i)))),(4,.c (.int .i64 (1+i)))]) (fun _=>[(p1,.blk 6 (dF x))]) (fun i=>1+(i:Int)≤x.m) (fun i=>(x.m-1-i).toNat) (0) ?_ (fun _=>rfl) ?_ ?_ ?_
 ·show 1+((0:Nat):Int)≤x.m;omega
 ·exact .cons (cI (by show _=bf x.y+x.d-1+pA x.y 1;rw [ru];omega)) (.cons cZ .nil)
 ·(repeat (first|exact aS.nil|refine aS.blk rfl (fun j hj=>by rcases j with _|_|_|_|_|_|_|_|j <;> first|exact cZ|omega) ?_))
 ·rintro i (hi:1+(i:Int)≤x.m)
  have hb:=vR x.y (1+i) jO jO
  have hs:=oy x.y (1+i) jO jO
  have hdd:=lB x.y (1+i)
  refine jU 5250100167 ?_;refine aq (fun h50=>?_) fun h50=>?_
  rotate_left
  ·refine jU 84000200020006000 ?_
   have e:1+(i:Int)=x.m:=by omega
   clear hs hdd
   refine jU 800070005195060000009950700000099505000000916 ?_;refine cI ?_
   unfold my dn
   rw [e]
   omega
  refine jU 150901200207810 ?_
  refine ak (ap (lY _ _) ?_)
  refine jU 851912008400519 ?_
  refine aw (i+1) ?_ ?_ (h5:=?_)
  ·omega
  ·omega
  ·refine .cons (cI ?_) (.cons (cI jO) .nil)
   show _=bf x.y+x.d-1+pA x.y (1+((i+1:Nat):Int))
   rw [show (1:Int)+((i+1:Nat):Int)=1+i+1 by omega,hs]
   omega
end
section
open Go.RowKit Cal
def dg (b:List UInt8) (i:Nat):Int:=((b.getD i 0).toNat:Int)-48
def i5 (b:List UInt8) (i:Nat):Prop:=48≤((b.getD i 0).toNat:Int)∧((b.getD i 0).toNat:Int)≤57
instance (b:List UInt8) (i:Nat):Decidable (i5 b i):=by unfold i5;infer_instance
def two (b:List UInt8) (j:Nat):Int:=10 * dg b (2 * j)+dg b (2 * j+1)
def dD (b:List UInt8):D6:=⟨100 * two b 0+two b 1,two b 2,two b 3,two b 4,two b 5,two b 6⟩
def iA (b:List UInt8):Prop:=b.length=15∧((b.getD 14 0).toNat:Int)=90∧∀ i,i<14→i5 b i
instance (b:List UInt8):Decidable (iA b):=by unfold iA;infer_instance
def gV (b:List UInt8):Nat:=if iA b then (if bE (dD b) then 0 else 1) else 4
def gJ (b:List UInt8):Int:=if iA b∧bE (dD b) then my (dD b) else 0

theorem Ek {x:D6} (h:bE x):(∀ i,i<14→i5 (cW x) i)∧dD (cW x)=x:=by
 obtain ⟨q1,q2,q3,q4,q5,q6,q7,q8,q9,q10⟩:=id h
 have qm:=cM q3 q4
 have qd:=lB x.y x.m
 have q:∀ n p:Int,0≤n→1≤p→((iN n p).toNat:Int)=48+n / p % 10:=fun n p hn hp=>rg (Int.ediv_nonneg hn jO)
 have e:∀ i,i<14→∃ n p:Int,(cW x).getD i 0=iN n p∧0≤n∧1≤p:=by
  intro i hi
  rcases i with _|_|_|_|_|_|_|_|_|_|_|_|_|_|i
  ·exact ⟨x.y,1000,rfl,by omega,by omega⟩
  ·exact ⟨x.y,100,rfl,by omega,by omega⟩
  ·exact ⟨x.y,10,rfl,by omega,by omega⟩
  ·exact ⟨x.y,1,rfl,by omega,by omega⟩
  ·exact ⟨x.m,10,rfl,by omega,by omega⟩
  ·exact ⟨x.m,1,rfl,by omega,by omega⟩
  ·exact ⟨x.d,10,rfl,by omega,by omega⟩
  ·exact ⟨x.d,1,rfl,by omega,by omega⟩
  ·exact ⟨x.h,10,rfl,by omega,by omega⟩
  ·exact ⟨x.h,1,rfl,by omega,by omega⟩
  ·exact ⟨x.mi,10,rfl,by omega,by omega⟩
  ·exact ⟨x.mi,1,rfl,by omega,by omega⟩
  ·exact ⟨x.s,10,rfl,by omega,by omega⟩
  ·exact ⟨x.s,1,rfl,by omega,by omega⟩
  ·omega
 refine ⟨fun i hi=>?_,?_⟩
 ·obtain ⟨n,p,h1,h2,h3⟩:=e i hi
  unfold i5
  rw [h1,q n p h2 h3]
  omega
 ·have dd:∀ (i:Nat) (n p:Int),(cW x).getD i 0=iN n p→0≤n→1≤p→dg (cW x) i=n / p % 10:=fun i n p h1 h2 h3=>by
   unfold dg
   rw [h1,q n p h2 h3]
   omega
  have t0:two (cW x) 0=10 * (x.y / 1000 % 10)+x.y / 100 % 10:=by unfold two;rw [dd (2 * 0) x.y 1000 rfl jO jO,dd (2 * 0+1) x.y 100 rfl jO jO]
  have t1:two (cW x) 1=10 * (x.y / 10 % 10)+x.y / 1 % 10:=by unfold two;rw [dd (2 * 1) x.y 10 rfl jO jO,dd (2 * 1+1) x.y 1 rfl jO jO]
  have t2:two (cW x) 2=x.m:=by unfold two;rw [dd (2 * 2) x.m 10 rfl jO jO,dd (2 * 2+1) x.m 1 rfl jO jO];omega
  have t3:two (cW x) 3=x.d:=by unfold two;rw [dd (2 * 3) x.d 10 rfl jO jO,dd (2 * 3+1) x.d 1 rfl jO jO];omega
  have t4:two (cW x) 4=x.h:=by unfold two;rw [dd (2 * 4) x.h 10 rfl jO jO,dd (2 * 4+1) x.h 1 rfl jO jO];omega
  have t5:two (cW x) 5=x.mi:=by unfold two;rw [dd (2 * 5) x.mi 10 rfl jO jO,dd (2 * 5+1) x.mi 1 rfl jO jO];omega
  have t6:two (cW x) 6=x.s:=by unfold two;rw [dd (2 * 6) x.s 10 rfl jO jO,dd (2 * 6+1) x.s 1 rfl jO jO];omega
  unfold dD
  rw [t0,t1,t2,t3,t4,t5,t6]
  have:100 * (10 * (x.y / 1000 % 10)+x.y / 100 % 10)+(10 * (x.y / 10 % 10)+x.y / 1 % 10)=x.y:=by omega
  rw [this]
theorem Ba {x:D6} (h:bE x):gV (cW x)=0∧gJ (cW x)=my x:=by
 have hf:iA (cW x):=⟨rfl,by show (((90:UInt8).toNat:Nat):Int)=90;rfl,(Ek h).1⟩
 have hg:=(Ek h).2
 unfold gV gJ
 rw [hg,if_pos hf,if_pos h,if_pos ⟨hf,h⟩]
 exact ⟨rfl,rfl⟩

def mv (x:D6):List Int:=[x.y / 100,x.y % 100,x.m,x.d,x.h,x.mi,x.s]
def ul (x:D6) (i:Nat):List UInt8:=((mv x).take i).flatMap fun n=>[iN n 10,iN n 1]
theorem GX {x:D6} (h1:0≤x.y) (h2:x.y≤9999):ul x 7++[90]=cW x:=by
 have e1:iN (x.y / 100) 10=iN x.y 1000:=by unfold iN;congr 2;omega
 have e2:iN (x.y / 100) 1=iN x.y 100:=by unfold iN;congr 2;omega
 have e3:iN (x.y % 100) 10=iN x.y 10:=by unfold iN;congr 2;omega
 have e4:iN (x.y % 100) 1=iN x.y 1:=by unfold iN;congr 2;omega
 simp [ul,mv,cW,jc,e1,e2,e3,e4]
theorem wO {x:D6} {i:Nat} (h:i<(mv x).length):ul x (i+1)=ul x i++[iN ((mv x).getD i 0) 10,iN ((mv x).getD i 0) 1]:=by
 have e:(mv x).take (i+1)=(mv x).take i++[(mv x).getD i 0]:=by
  rw [List.take_succ_eq_append_getElem h]
  simp [List.getD,h]
 unfold ul
 rw [e,List.flatMap_append]
 simp
theorem zP (x:D6) {i:Nat} (h:i≤7):(ul x i).length=2 * i:=by
 rcases i with _|_|_|_|_|_|_|_|i <;> simp [ul,mv] <;> omega
end
section
variable {gs:List Nat} [fZ gs]
open Go.RowKit Cal
set_option linter.unusedVariables false

theorem Eo {N y:Int} (h0:0≤N) (h1:N≤2932896) (hy:1970≤y) (hb:bf y≤N):y≤9999:=by
 refine Decidable.byContradiction fun hn=>?_
 have:=nc (a:=10000) (b:=y) jO
 have e:bf 10000=2932897:=by decide
 omega
theorem KX {gs:List Nat} (t:Int) (h:ol t):bM gs Tryz.prog 215 [.c (.int .i64 t)] (vQ (u5 t)):=by
 obtain ⟨r1,r2⟩:=id h
 obtain ⟨N,hN⟩:∃ N,N=t / 86400:=⟨_,rfl⟩
 have n0:0≤N:=by omega
 have n1:N≤2932896:=by omega
 refine ai 52 Tryz.func215 fun al w0 F0 St0=>?_;refine cy ?_
 refine ak (bD (n:=6) zC rfl fun p1=>?_)
 refine jU 10000001100000060000011000000600000165 ?_;refine jq (ae (n:=6) rfl zC MQ rfl rfl) ?_
 refine ak (bD (n:=6) zC rfl fun p2=>?_)
 refine ar (ax 6 ?_)
 refine jU 20751600000165 ?_;refine aF (α:=Int) [4,5,17,18,19,20,21,22,23,24,25,26,27,28,29] (fun y=>[(4,.c (.int .i64 (N-bf y)))]) (fun y=>[(p1,.blk 6 (dF D6.zero)),(p2,.blk 6 (dF ⟨y,1,0,t / 3600 % 24,t / 60 % 60,t % 60⟩))]) (fun y=>1970≤y∧bf y≤N) (fun y=>(10000-y).toNat) (1970) ?_ (fun _=>rfl) ?_ ?_ ?_
 ·exact ⟨by omega,by rw [rC];exact n0⟩
 ·exact .cons (cI (by rw [rC];omega)) .nil
 ·(repeat (first|exact aS.nil|refine aS.blk rfl (fun j hj=>by rcases j with _|_|_|_|_|_|_|_|j <;> first|exact cZ|omega) ?_))
 ·rintro y ⟨hy,hb⟩
  have hy9:=Eo n0 n1 hy hb
  have hs:=zl y
  have hbd:=JY y hy jO
  refine jU 50906751620 ?_
  refine ak (ap (uG _) ?_)
  refine jU 5 ?_;refine aq (fun h62=>?_) fun h62=>?_
  rotate_left
  ·refine jU 521167810 ?_;refine aq (fun h65=>?_) fun h65=>?_
   rotate_left
   ·refine jU 9095090200519116810 ?_
    refine ar (ax 1 ?_)
    refine jU 84005 ?_
    refine aw (y+1) ?_ ?_ (h5:=?_)
    ·exact ⟨by omega,by simp only [*,Bool.false_eq_true,if_false] at hs;omega⟩
    ·omega
    ·exact .cons (cI (by simp only [*,Bool.false_eq_true,if_false] at hs;omega)) .nil
   refine jU 2078400020008000020006000 ?_;refine aF (α:=Int) [4,30,31,32,33,34,35,36,37,38,39,40,41,42,43,44,45,46,47] (fun m=>[(4,.c (.int .i64 (N-bf y-pA y m)))]) (fun m=>[(p1,.blk 6 (dF D6.zero)),(p2,.blk 6 (dF ⟨y,m,0,t / 3600 % 24,t / 60 % 60,t % 60⟩))]) (fun m=>1≤m∧m≤12∧pA y m≤N-bf y) (fun m=>(13-m).toNat) (1) ?_ (fun _=>rfl) ?_ ?_ ?_
   ·exact ⟨by omega,by omega,by rw [ru];omega⟩
   ·exact .cons (cI (by rw [ru];omega)) .nil
   ·(repeat (first|exact aS.nil|refine aS.same ?_))
   ·rintro m ⟨m1,m2,hc⟩
    have hcb:=vR y m m1 jO
    have hcs:=oy y m m1 m2
    have hdd:=lB y m
    have hc13:=zh y
    have hm13:m=12→pA y (m+1)=pA y 13:=fun h=>by rw [h];rfl
    refine jU 501005090167 ?_
    refine ak (ap (lY _ _) ?_)
    refine jU 52 ?_;refine aq (fun h71=>?_) fun h71=>?_
    ·refine jU 5010050901620810 ?_
     refine ak (ap (lY _ _) ?_)
     refine jU 100950100200519 ?_
     refine ar (ax 1 ?_)
     refine jU 84005 ?_
     refine aw (m+1) ?_ ?_ (h5:=?_)
     ·exact ⟨by omega,by refine Decidable.byContradiction fun hn=>?_;have:=hm13 jO;dsimp only at *;simp only [*,Bool.false_eq_true,if_false] at hs;omega,by dsimp only at *;omega⟩
     ·omega
     ·exact .cons (cI (by dsimp only at *;omega)) .nil
    refine jU 100091684000200020006000 ?_
    refine ar (ax 1 ?_)
    refine jU 65 ?_;refine eL (aV 6) ?_
    refine ar (ax 6 ?_)
    refine jU 5 ?_
    refine jR (cX (hres:=aA rfl (bz 6)) (hv:=?_))
    have hR:bE ⟨y,m,N-bf y-pA y m+1,t / 3600 % 24,t / 60 % 60,t % 60⟩:=by
     unfold bE
     dsimp only at *
     omega
    have hS:my ⟨y,m,N-bf y-pA y m+1,t / 3600 % 24,t / 60 % 60,t % 60⟩=t:=by
     unfold my dn
     dsimp only
     clear hcs hcb hc13 hs hbd hR
     omega
    have e:=Cv hR
    rw [hS] at e
    rw [e]
    exact ab.agg6 cZ cZ cZ cZ cZ cZ
  refine jU 521167851200 ?_;refine aq (fun h65=>?_) fun h65=>?_
  rotate_left
  ·refine jU 9095090200519116810 ?_
   refine ar (ax 1 ?_)
   refine jU 84005 ?_
   refine aw (y+1) ?_ ?_ (h5:=?_)
   ·exact ⟨by omega,by simp only [*,if_true] at hs;omega⟩
   ·omega
   ·exact .cons (cI (by simp only [*,if_true] at hs;omega)) .nil
  refine jU 2078400020008000020006000 ?_;refine aF (α:=Int) [4,30,31,32,33,34,35,36,37,38,39,40,41,42,43,44,45,46,47] (fun m=>[(4,.c (.int .i64 (N-bf y-pA y m)))]) (fun m=>[(p1,.blk 6 (dF D6.zero)),(p2,.blk 6 (dF ⟨y,m,0,t / 3600 % 24,t / 60 % 60,t % 60⟩))]) (fun m=>1≤m∧m≤12∧pA y m≤N-bf y) (fun m=>(13-m).toNat) (1) ?_ (fun _=>rfl) ?_ ?_ ?_
  ·exact ⟨by omega,by omega,by rw [ru];omega⟩
  ·exact .cons (cI (by rw [ru];omega)) .nil
  ·(repeat (first|exact aS.nil|refine aS.same ?_))
  ·rintro m ⟨m1,m2,hc⟩
   have hcb:=vR y m m1 jO
   have hcs:=oy y m m1 m2
   have hdd:=lB y m
   have hc13:=zh y
   have hm13:m=12→pA y (m+1)=pA y 13:=fun h=>by rw [h];rfl
   refine jU 501005090167 ?_
   refine ak (ap (lY _ _) ?_)
   refine jU 52 ?_;refine aq (fun h71=>?_) fun h71=>?_
   ·refine jU 5010050901620810 ?_
    refine ak (ap (lY _ _) ?_)
    refine jU 100950100200519 ?_
    refine ar (ax 1 ?_)
    refine jU 84005 ?_
    refine aw (m+1) ?_ ?_ (h5:=?_)
    ·exact ⟨by omega,by refine Decidable.byContradiction fun hn=>?_;have:=hm13 jO;dsimp only at *;simp only [*,if_true] at hs;omega,by dsimp only at *;omega⟩
    ·omega
    ·exact .cons (cI (by dsimp only at *;omega)) .nil
   refine jU 100091684000200020006000 ?_
   refine ar (ax 1 ?_)
   refine jU 65 ?_;refine eL (aV 6) ?_
   refine ar (ax 6 ?_)
   refine jU 5 ?_
   refine jR (cX (hres:=aA rfl (bz 6)) (hv:=?_))
   have hR:bE ⟨y,m,N-bf y-pA y m+1,t / 3600 % 24,t / 60 % 60,t % 60⟩:=by
    unfold bE
    dsimp only at *
    omega
   have hS:my ⟨y,m,N-bf y-pA y m+1,t / 3600 % 24,t / 60 % 60,t % 60⟩=t:=by
    unfold my dn
    dsimp only
    clear hcs hcb hc13 hs hbd hR
    omega
   have e:=Cv hR
   rw [hS] at e
   rw [e]
   exact ab.agg6 cZ cZ cZ cZ cZ cZ

theorem Nq {x:D6} (h:bE x) {i:Nat} (hi:i<(mv x).length):0≤(mv x).getD i 0∧(mv x).getD i 0≤99:=by
 obtain ⟨q1,q2,q3,q4,q5,q6,q7,q8,q9,q10⟩:=id h
 have:=lB x.y x.m
 have qm:=cM q3 q4
 rcases i with _|_|_|_|_|_|_|i
 ·show 0≤x.y / 100∧x.y / 100≤99;omega
 ·show 0≤x.y % 100∧x.y % 100≤99;omega
 ·show 0≤x.m∧x.m≤99;omega
 ·show 0≤x.d∧x.d≤99;omega
 ·show 0≤x.h∧x.h≤99;omega
 ·show 0≤x.mi∧x.mi≤99;omega
 ·show 0≤x.s∧x.s≤99;omega
 ·simp [mv] at hi;omega
theorem ER {gs:List Nat} (x:D6) (h:bE x):bM gs Tryz.prog 214 [vQ x] (bu (cW x)):=by
 obtain ⟨q1,q2,_⟩:=id h
 refine ai 44 Tryz.func214 fun al w0 F0 St0=>?_;refine cy ?_
 refine ak (cE 6 fun p1=>?_)
 refine jU 651 ?_
 refine ak (aU 0 1 f7 fun p2=>?_)
 refine jU 506000000507000000505000000501000501001000000509060000050906751 ?_
 refine ak (aU 7 1 nj fun p3=>?_)
 refine jU 20513 ?_;refine aF (α:=Nat×Option Nat) [3,5,25,26,27,28,29,30,31,32,33,34,35,36,37,38,39,40] (fun (i,g)=>[(3,.os 1 g 0 (ul x i).length 1),(25,.c (.int .i64 (i:Nat)))]) (fun (i,g)=>[(p1,.blk 6 (dF x)),(g,.blk (ul x i).length (ft (ul x i))),(p3,.blk 7 (kQ (mv x)))]) (fun i=>i.1≤7) (fun i=>7-i.1) ((0,p2)) ?_ (fun _=>rfl) ?_ ?_ ?_
 ·simp
 ·(repeat (first|exact bZ.nil|refine bZ.cons cZ ?_))
 ·exact .blk rfl (fun j hj=>by rcases j with _|_|_|_|_|_|j <;> first|exact cZ|omega) (.blk rfl (fun j hj=>absurd hj (by show ¬ j<0;omega)) (.blk rfl (fun j hj=>lA (mv x) j hj) .nil))
 ·rintro ⟨i,g'⟩ (hi:i≤7)
  refine jU 7526 ?_;refine aq (fun h82=>?_) fun h82=>?_
  rotate_left
  ·refine jU 84000200020006000 ?_
   have hlen:=zP x hi
   have hi7:i=7:=by omega
   refine jU 16 ?_
   refine ak (aU 1 1 f7 fun p4=>?_)
   refine ar (bC (l2:=[90]) rfl rfl rfl (Nat.le_refl _) (fun _ _=>cZ) (aY rfl (.inl rfl) jD) rfl (dt (.cons (cI (rfl)) .nil)) Tryz.underlying22 iM qi f7 rB rfl (by (simp;omega)) (eM rfl rfl) rfl rfl (fun p5=>?_))
   refine jU 51 ?_;refine jE (freeze 1 rfl) ?_;refine jE (kE 2 (ul x i++[90]) rfl rfl (by rfl) rfl) ?_;refine jU 80007000 ?_
   subst hi7
   rw [← GX jO q2]
   exact cZ
  refine jU 51507006207810 ?_
  have hlt:i<(mv x).length:=by simp [mv];omega
  have hb:=Nq h hlt
  have hlen:=zP x hi
  refine jU 800000910000001800000960000011200 ?_
  refine ak (aU 2 1 f7 fun p4=>?_)
  refine ar (bC (l2:=[iN ((mv x).getD i 0) 10,iN ((mv x).getD i 0) 1]) rfl rfl rfl (Nat.le_refl _) (fun _ _=>cZ) (aY rfl (.inl rfl) jD) rfl (dt (.cons (cI ((by rw [rg jO];show _=48+_;omega))) (.cons (cI ((by rw [rg jO];omega))) .nil))) Tryz.underlying22 iM qi f7 rB rfl (by (simp;omega)) (eM rfl rfl) rfl rfl (fun p5=>?_))
  refine jU 8519200840051 ?_
  refine aw ((i+1,p5)) ?_ ?_ (h5:=?_) (h7:=?_)
  ·omega
  ·omega
  ·simp only [wO hlt]
   (repeat (first|exact bZ.nil|refine bZ.cons cZ ?_))
  ·simp only [wO hlt]
   (repeat (first|exact aS.nil|refine aS.same ?_))
end
section
variable {gs:List Nat} [fZ gs]
open Go.RowKit Cal
set_option linter.unusedVariables false

def tC (b:List UInt8) (i j:Nat):Int:=if 2 * j+1<i then two b j else if 2 * j<i then dg b (2 * j) else 0
theorem tL {b:List UInt8} {i:Nat} (h:∀ k,k<i→i5 b k) (j:Nat):0≤tC b i j∧tC b i j≤99:=by
 unfold tC
 split
 ·have h1:=h (2 * j) jO
  have h2:=h (2 * j+1) jO
  unfold i5 at h1 h2
  unfold two dg
  omega
 ·split
  ·have h1:=h (2 * j) jO
   unfold i5 at h1
   unfold dg
   omega
  ·omega
theorem Ex {b:List UInt8} {i:Nat} (j:Nat):tC b (i+1) j=if j=i / 2 then 10 * tC b i j+dg b i else tC b i j:=by
 unfold tC
 by_cases hj:j=i / 2
 ·rw [if_pos hj]
  by_cases he:i % 2=0
  ·have e:i=2 * j:=by omega
   subst e
   rw [jK,jP,jK,jK]
   omega
  ·have e:i=2 * j+1:=by omega
   rw [jP,jK,jP,e]
   rfl
 ·rw [if_neg hj]
  by_cases h1:2 * j+1<i
  ·rw [jP,if_pos h1]
  ·rw [jK,if_neg h1,jK,jK]
theorem lj {b:List UInt8} {j:Nat} (h:j<7):tC b 14 j=two b j:=by unfold tC;rw [jP]
theorem GS {b:List UInt8} (h:∀ k,k<14→i5 b k) {j:Nat} (hj:j<7):0≤two b j∧two b j≤99:=by rw [← lj hj];exact tL h j
def QG (b:List UInt8) (i j:Nat):CV:=.c (.int .i64 (tC b i j))

theorem LI (b:List UInt8):bM gs Tryz.prog 191 [bu b] (.tup 2 (fl [.c (.int .i64 (gJ b)),.err (gV b)])):=by
 refine ai 65 Tryz.func191 fun al w0 F0 St0=>?_;refine jU 1231675116 ?_;refine ay 10 (fun g112=>?_) fun g112=>?_
 ·refine jU 7900051000000004444 ?_;refine ff (.rd 0 (.rd 1 (.rd 2 .done))) ?_;refine jU 80003000700088070704000000 ?_
  have hn:¬ iA b:=fun h=>by obtain ⟨h1,h2,h3⟩:=h;omega
  unfold gJ gV
  rw [if_neg (fun h=>hn h.1),if_neg hn]
  exact cZ
 refine jU 1 ?_;refine jq (fb (i:=14)) ?_;refine jU 5500260 ?_;refine aq (fun h112=>?_) fun h112=>?_
 ·refine iy ?_;refine ff (.rd 0 (.rd 1 (.rd 2 .done))) ?_;refine jU 80003000700088070704000000 ?_
  have hn:¬ iA b:=fun h=>by obtain ⟨h1,h2,h3⟩:=h;omega
  unfold gJ gV
  rw [if_neg (fun h=>hn h.1),if_neg hn]
  exact cZ
 refine jU 6810 ?_
 refine ak (bD (n:=7) OH rfl fun p1=>?_)
 refine jU 1675 ?_;refine jq (tH (hz2:=(show (14:Int)=((14:Nat):Int) from rfl))) ?_;refine jU 20513 ?_;refine aF (α:=Nat) [2,3,5,6,20,21,22,23,24,25,26,27,28,29,30,31,32,33,34,35,36,37,38,39,40,41,42,43,44] (fun i=>[(20,.c (.int .i64 (i:Nat)))]) (fun i=>[(p1,.blk 7 (QG b i))]) (fun i=>i≤14∧∀ k,k<i→i5 b k) (fun i=>14-i) (0) ?_ (fun _=>rfl) ?_ ?_ ?_
 ·exact ⟨by omega,fun k hk=>by omega⟩
 ·(repeat (first|exact bZ.nil|refine bZ.cons cZ ?_))
 ·exact .blk rfl (fun j hj=>by rcases j with _|_|_|_|_|_|_|j <;> first|exact cZ|omega) .nil
 ·rintro i ⟨hi,hd⟩
  refine jU 7526 ?_;refine aq (fun h116=>?_) fun h116=>?_
  rotate_left
  ·refine jU 84000200020006000 ?_
   have ht:(b.take 14).length=14:=by simp;omega
   have hi14:i=14:=by omega
   have hd14:∀ k,k<14→i5 b k:=fun k hk=>hd k jO
   have g0:=tL hd 0
   have g1:=tL hd 1
   have hf:iA b:=⟨by omega,by omega,hd14⟩
   refine cy ?_;refine jq (fA rfl rfl rfl Tryz.underlying283 uq (show (0:Int)=((0:Nat):Int) from rfl) (by (omega))) ?_;refine jU 950 ?_;refine jq (fA rfl rfl rfl Tryz.underlying283 uq (show (1:Int)=((1:Nat):Int) from rfl) (by (omega))) ?_;refine jU 950 ?_;refine jq (fA rfl rfl rfl Tryz.underlying283 uq (show (2:Int)=((2:Nat):Int) from rfl) (by (omega))) ?_;refine jU 50 ?_;refine jq (fA rfl rfl rfl Tryz.underlying283 uq (show (3:Int)=((3:Nat):Int) from rfl) (by (omega))) ?_;refine jU 50 ?_;refine jq (fA rfl rfl rfl Tryz.underlying283 uq (show (4:Int)=((4:Nat):Int) from rfl) (by (omega))) ?_;refine jU 50 ?_;refine jq (fA rfl rfl rfl Tryz.underlying283 uq (show (5:Int)=((5:Nat):Int) from rfl) (by (omega))) ?_;refine jU 50 ?_;refine jq (fA rfl rfl rfl Tryz.underlying283 uq (show (6:Int)=((6:Nat):Int) from rfl) (by (omega))) ?_;refine jU 50 ?_;refine jq (ae (n:=6) rfl wE HV rfl rfl) ?_
   refine ak (ap (KO (dD b)) ?_ (ho:=rfl) (he:=(.cons (se rfl (ab.agg6 (cI (by show 100 * tC b i 0+tC b i 1=_;rw [hi14,lj jO,lj jO];rfl)) (cI (by rw [hi14,lj jO];rfl)) (cI (by rw [hi14,lj jO];rfl)) (cI (by rw [hi14,lj jO];rfl)) (cI (by rw [hi14,lj jO];rfl)) (cI (by rw [hi14,lj jO];rfl)))) .nil)))
   refine jU 80007000511900900 ?_
   unfold gJ gV
   rw [if_pos hf]
   refine cT (cI ?_) (ab.err rfl)
   by_cases hr:bE (dD b)
   ·rw [if_pos hr,if_pos ⟨hf,hr⟩]
   ·rw [if_neg hr,if_neg (fun h=>hr h.2)]
  refine jU 75116070016207810 ?_
  have ht:(b.take 14).length=14:=by simp;omega
  have hg:(((b.take 14).getD i 0).toNat:Int)=((b.getD i 0).toNat:Int):=by
   simp [List.getD,show i<14 by omega]
  refine jU 1216 ?_;refine ay 27 (fun g117=>?_) fun g117=>?_
  ·refine jU 79000510000000044 ?_;refine ff (.rd 0 (.rd 1 (.rd 2 .done))) ?_;refine jU 8000300050003000300050003000700088070704000000 ?_
   have hn:¬ iA b:=fun h=>by
    obtain ⟨h1,h2,h3⟩:=h
    have:=h3 i jO
    unfold i5 at this
    omega
   unfold gJ gV
   rw [if_neg (fun h=>hn h.1),if_neg hn]
   exact cZ
  refine jU 550021 ?_;refine aq (fun h117=>?_) fun h117=>?_
  ·refine iy ?_;refine ff (.rd 0 (.rd 1 (.rd 2 .done))) ?_;refine jU 8000300050003000300050003000700088070704000000 ?_
   have hn:¬ iA b:=fun h=>by
    obtain ⟨h1,h2,h3⟩:=h
    have:=h3 i jO
    unfold i5 at this
    omega
   unfold gJ gV
   rw [if_neg (fun h=>hn h.1),if_neg hn]
   exact cZ
  refine jU 810 ?_
  have hdi:i5 b i:=by unfold i5;omega
  have hdj:=hdi
  unfold i5 at hdj
  have hb2:=tL hd (i / 2)
  refine jU 60000016000001200 ?_;refine jq (fA rfl rfl rfl Tryz.underlying283 uq (show _=(((i / 2):Nat):Int) by omega) (by (omega))) ?_;refine jU 91950 ?_;refine jq (GA .u8 .i64) ?_;refine jU 9 ?_;refine jq (fA rfl rfl rfl Tryz.underlying283 uq (show _=(((i / 2):Nat):Int) by omega) (by (omega))) ?_
  refine ar (ax 1 ?_)
  refine jU 851920084005 ?_
  refine aw (i+1) ?_ ?_ (h7:=?_)
  ·exact ⟨by omega,fun k hk=>by
    rcases Nat.lt_succ_iff_lt_or_eq.1 hk with h|h
    ·exact hd k h
    ·subst h;exact hdi⟩
  ·omega
  ·exact .blk rfl (fun j hj=>by
    refine (ab.of_eq (uj _ _ _ j)).trans ?_
    unfold QG
    rw [Ex]
    by_cases hj2:j=i / 2
    ·rw [if_pos hj2,if_pos hj2,hj2]
     exact cI (by unfold dg;omega)
    ·rw [if_neg hj2,if_neg hj2]
     exact cZ) .nil

def wq (b:List UInt8) (i:Nat):List Int:=(List.range i).map (two b)
theorem zL (b:List UInt8) (i:Nat):wq b (i+1)=wq b i++[two b i]:=by simp [wq,List.range_succ]
theorem Dq (b:List UInt8) (i:Nat):(wq b i).length=i:=by simp [wq]
theorem mq {b:List UInt8} {i j:Nat} (h:j<i):(wq b i).getD j 0=two b j:=by simp [wq,List.getD,h]
theorem KZ {gs:List Nat} (b:List UInt8):bM gs Tryz.prog 209 [bu b] (.tup 2 (fl [.c (.int .i64 (gJ b)),.c (.int .i64 (gV b))])):=by
 refine ai 96 Tryz.func209 fun al w0 F0 St0=>?_;refine jU 1231675116 ?_;refine ay 10 (fun g90=>?_) fun g90=>?_
 ·refine jU 8000300070005116900051000000004444 ?_
  have hn:¬ iA b:=fun h=>by obtain ⟨h1,h2,h3⟩:=h;omega
  unfold gJ gV
  rw [if_neg (fun h=>hn h.1),if_neg hn]
  exact cZ
 refine jU 1 ?_;refine jq (fb (i:=14)) ?_;refine jU 5500260 ?_;refine aq (fun h90=>?_) fun h90=>?_
 ·refine jU 8000300070005116 ?_
  have hn:¬ iA b:=fun h=>by obtain ⟨h1,h2,h3⟩:=h;omega
  unfold gJ gV
  rw [if_neg (fun h=>hn h.1),if_neg hn]
  exact cZ
 refine jU 6810 ?_
 refine ak (aU 0 1 nj fun p1=>?_)
 refine jU 20516751 ?_;refine aF (α:=Nat×Option Nat) [2,3,4,5,17,18,19,20,21,22,23,24,25,26,27,28,29,30,31,32,33,34,35,36,37,38,39,40,41,42,43,44,45,46,47,48,49,50,51,52,53,54,55,56,57,58,59,60,61,62,63,64,65,66] (fun (i,g)=>[(4,.os 0 g 0 (wq b i).length 1),(5,.c (.int .i64 (2 * i:Nat)))]) (fun (i,g)=>[(g,.blk (wq b i).length (kQ (wq b i)))]) (fun i=>i.1≤7∧∀ k,k<2 * i.1→i5 b k) (fun i=>7-i.1) ((0,p1)) ?_ (fun _=>rfl) ?_ ?_ ?_
 ·exact ⟨by omega,fun k hk=>by omega⟩
 ·(repeat (first|exact bZ.nil|refine bZ.cons cZ ?_))
 ·exact .blk rfl (fun j hj=>absurd hj (by show ¬ j<0;omega)) .nil
 ·rintro ⟨i,g'⟩ ⟨hi,hd⟩
  refine jU 52167 ?_;refine aq (fun h94=>?_) fun h94=>?_
  rotate_left
  ·refine jU 784000200020006000 ?_
   have hi7:i=7:=by omega
   subst hi7
   have hf:iA b:=⟨by omega,by omega,fun k hk=>hd k jO⟩
   have hl:=Dq b 7
   have g0:=GS hf.2.2 (j:=0) jO
   have g1:=GS hf.2.2 (j:=1) jO
   have t0:(wq b 7).getD 0 0=two b 0:=mq jO
   have t1:(wq b 7).getD 1 0=two b 1:=mq jO
   have t2:(wq b 7).getD 2 0=two b 2:=mq jO
   have t3:(wq b 7).getD 3 0=two b 3:=mq jO
   have t4:(wq b 7).getD 4 0=two b 4:=mq jO
   have t5:(wq b 7).getD 5 0=two b 5:=mq jO
   have t6:(wq b 7).getD 6 0=two b 6:=mq jO
   refine py 25 (.rd 0 (.rd 1 (.rd 2 (.rd 3 (.rd 4 (.rd 5 (.rd 6 (.rd 7 (.rd 8 (.rd 9 (.rd 10 (.rd 11 (.rd 12 (.rd 13 (.rd 14 (.rd 15 (.rd 16 (.rd 17 (.rd 18 (.rd 19 (.rd 20 (.rd 21 (.rd 22 (.rd 23 (.one 24 .done))))))))))))))))))))))))) ?_;refine jU 70 ?_;refine bV (fb (i:=0)) ?_;refine jU 703000010000 ?_;refine bV (fb (i:=1)) ?_;refine jU 703000010000 ?_;refine bV (fb (i:=2)) ?_;refine jU 7010000 ?_;refine bV (fb (i:=3)) ?_;refine jU 7010000 ?_;refine bV (fb (i:=4)) ?_;refine jU 7010000 ?_;refine bV (fb (i:=5)) ?_;refine jU 7010000 ?_;refine bV (fb (i:=6)) ?_;refine Ki mS ?_;refine bV (ae (n:=6) rfl zC MQ rfl rfl) ?_
   refine kO (bD (n:=6) zC rfl fun p2=>?_)
   refine BO ?_
   show cV _ _ _ _ _ _
   refine ar (ax 6 ?_)
   refine jU 6785 ?_;refine eL (aV 6) ?_
   refine ak (ap (B4 (dD b)) ?_ (ho:=rfl) (he:=(.cons (se rfl (ab.agg6 (cI (by show (wq b 7).getD 0 0 * 100+(wq b 7).getD 1 0=100 * two b 0+two b 1;rw [t0,t1];omega)) (cI t2) (cI t3) (cI t4) (cI t5) (cI t6))) .nil)))
   refine jU 530 ?_;refine aq (fun h101=>?_) fun h101=>?_
   ·refine jU 8000300070005116 ?_
    unfold gJ gV
    rw [if_neg (fun h=>h101 h.2),if_pos hf,if_neg h101]
    exact cZ
   refine jU 810 ?_
   have hr:bE (dD b):=Decidable.not_not.1 h101
   refine cy ?_;refine eL (aV 6) ?_
   refine ak (ap (Hh (dD b) hr) ?_ (ho:=rfl) (he:=(.cons (se rfl (ab.agg6 (cI (by show (wq b 7).getD 0 0 * 100+(wq b 7).getD 1 0=100 * two b 0+two b 1;rw [t0,t1];omega)) (cI t2) (cI t3) (cI t4) (cI t5) (cI t6))) .nil)))
   refine jU 80007000511 ?_
   unfold gJ gV
   rw [if_pos ⟨hf,hr⟩,if_pos hf,if_pos hr]
   exact cZ
  refine jU 12607001167207810 ?_;refine ay 26 (fun g95=>?_) fun g95=>?_
  ·refine jU 800030005000300030005000300070005116900051000000004444441100000000444444110000000044444 ?_
   have hn:¬ iA b:=fun h=>by
    obtain ⟨h1,h2,h3⟩:=h
    have q1:=h3 (2 * i) jO
    have q2:=h3 (2 * i+1) jO
    unfold i5 at q1 q2
    omega
   unfold gJ gV
   rw [if_neg (fun h=>hn h.1),if_neg hn]
   exact cZ
  refine jU 150026070011 ?_;refine ay 33 (fun g95_2=>?_) fun g95_2=>?_
  ·refine jU 800030005000300030005000300070005116900051000000004444441100000000444444 ?_
   have hn:¬ iA b:=fun h=>by
    obtain ⟨h1,h2,h3⟩:=h
    have q1:=h3 (2 * i) jO
    have q2:=h3 (2 * i+1) jO
    unfold i5 at q1 q2
    omega
   unfold gJ gV
   rw [if_neg (fun h=>hn h.1),if_neg hn]
   exact cZ
  refine jU 911 ?_;refine jq (fb (i:=(2 * i+1)) (hz:=by omega)) ?_;refine jU 1500260 ?_;refine ay 41 (fun g95_3=>?_) fun g95_3=>?_
  ·refine jU 80003000500030003000500030007000511690005100000000444444 ?_
   have hn:¬ iA b:=fun h=>by
    obtain ⟨h1,h2,h3⟩:=h
    have q1:=h3 (2 * i) jO
    have q2:=h3 (2 * i+1) jO
    unfold i5 at q1 q2
    omega
   unfold gJ gV
   rw [if_neg (fun h=>hn h.1),if_neg hn]
   exact cZ
  refine jU 911 ?_;refine jq (fb (i:=(2 * i+1)) (hz:=by omega)) ?_;refine jU 5500260 ?_;refine aq (fun h95=>?_) fun h95=>?_
  ·refine jU 800030005000300030005000300070005116 ?_
   have hn:¬ iA b:=fun h=>by
    obtain ⟨h1,h2,h3⟩:=h
    have q1:=h3 (2 * i) jO
    have q2:=h3 (2 * i+1) jO
    unfold i5 at q1 q2
    omega
   unfold gJ gV
   rw [if_neg (fun h=>hn h.1),if_neg hn]
   exact cZ
  refine jU 810 ?_
  have hd1:i5 b (2 * i):=by unfold i5;omega
  have hd2:i5 b (2 * i+1):=by unfold i5;omega
  have hdj:=hd1
  have hdk:=hd2
  unfold i5 at hdj hdk
  have hl:=Dq b i
  refine py 17 (.rd 0 (.rd 1 (.rd 2 (.rd 3 (.rd 4 (.rd 5 (.rd 6 (.rd 7 (.rd 8 (.rd 9 (.rd 10 (.rd 11 (.rd 12 (.rd 13 (.rd 14 (.rd 15 (.one 16 .done))))))))))))))))) ?_;refine jU 300007000090000707070 ?_;refine bV (GA .u8 .i64) ?_;refine jU 30000707030000 ?_;refine bV (fb (i:=(2 * i+1)) (hz:=by omega)) ?_;refine jU 3000070000 ?_;refine bV (GA .u8 .i64) ?_;refine bV IJ ?_
  refine kO (aU 1 1 nj fun p2=>?_)
  refine BO ?_
  show cV _ _ _ _ _ _
  refine ar (av fS (l2:=[two b i]) rfl rfl rfl rfl (by exact Nat.le_of_eq (Nat.mul_one _)) (fun _ _=>cZ) (aY rfl (.inl rfl) jD) rfl (lz (.cons (cI ((by unfold two dg;omega))) .nil)) Tryz.underlying137 lw uq nj Eh rfl (by (simp;omega)) (by (simp;omega)) (bi rfl rfl) rfl rfl (Nat.mul_one _) (fun p3=>?_))
  refine jU 85191200840051 ?_
  refine aw ((i+1,p3)) ?_ ?_ (h5:=?_) (h7:=?_)
  ·exact ⟨by omega,fun k hk=>by
    by_cases h1:k<2 * i
    ·exact hd k h1
    ·by_cases h2:k=2 * i
     ·subst h2;exact hd1
     ·have h3:k=2 * i+1:=by omega
      subst h3;exact hd2⟩
  ·omega
  ·simp only [zL]
   (repeat (first|exact bZ.nil|refine bZ.cons cZ ?_))
  ·simp only [zL]
   (repeat (first|exact aS.nil|refine aS.same ?_))
end
section
variable {gs:List Nat} [fZ gs]

theorem AI (n:Nat) (l:List (List UInt8)) (k:Nat) (hl:0<l.length∧l.length≤1000000) (hb:(aD l).length≤10000000) :
  AC gs Tryz.prog 117 [dA n l k] [.op 0 (some n) 0]
   (fun r H'=>r=.c (.int .i64 (if (ac 24 l k).is=true∧gV (ac 24 l k).body=0 then gJ (ac 24 l k).body else 0))∧H'=[dA n (ac 24 l k).l (dX 24 l k gV)]):=by
 refine ai 5 Tryz.func117 fun al w0 F0 St0=>?_;refine jU 16516 ?_
 refine ar (aJ 0 (rJ (m:=0) (fv:=fun _=>.top) (by kernel_rfl) n l k 24 (fun b=>(gJ b,gV b)) hl hb (fun b _=>LI b)) ?_ (ho:=rfl) (he:=(.cons (se rfl cP) (.cons (se rfl cZ) (.cons (se rfl ab.fn0) .nil)))))
 refine jU 700051 ?_
 exact ba (.inl rfl) rfl (aA rfl (aP rfl)) cZ
theorem H5 (n:Nat) (l:List (List UInt8)) (k:Nat) (hl:0<l.length∧l.length≤1000000) (hb:(aD l).length≤10000000) :
  AC gs Tryz.prog 231 [dA n l k] [.op 0 (some n) 0]
   (fun r H'=>r=au (if (ac 6 l k).is=true∧(dM (ac 6 l k).body).2=0 then (dM (ac 6 l k).body).1 else [])∧H'=[dA n (ac 6 l k).l (dX 6 l k fun b=>(dM b).2)]):=by
 refine ai 5 Tryz.func231 fun al w0 F0 St0=>?_;refine jU 16516 ?_
 refine ar (aJ 0 (wK (m:=0) (fv:=fun _=>.top) (by kernel_rfl) n l k 6 dM hl hb (fun b h=>Lx b jO)) ?_ (ho:=rfl) (he:=(.cons (se rfl cP) (.cons (se rfl cZ) (.cons (se rfl ab.fn0) .nil)))))
 refine jU 700051 ?_
 exact ba (.inl rfl) rfl (aA rfl (aP rfl)) cZ
end
section
variable {gs:List Nat} [fZ gs]

def jF (least most:Int) (b:List UInt8):List UInt8×Nat:=if (b.length:Int)<least then ([],2) else if most<(b.length:Int) then ([],3) else (b,0)
theorem AB (n:Nat) (l:List (List UInt8)) (k:Nat) (least most:Int) (hl:0<l.length∧l.length≤1000000) (hb:(aD l).length≤10000000) :
  AC gs Tryz.prog 66 [dA n l k] [.op 0 (some n) 0,.c (.int .i64 least),.c (.int .i64 most)]
   (fun r H'=>r=bu (if (ac 4 l k).is=true∧(jF least most (ac 4 l k).body).2=0 then (jF least most (ac 4 l k).body).1 else [])∧H'=[dA n (ac 4 l k).l (dX 4 l k fun b=>(jF least most b).2)]):=by
 have g:∀ b:List UInt8,bM gs Tryz.prog 140 (bu b::(List.range 2).map (Ey least most)) (.tup 2 (fl [bu (jF least most b).1,.err (jF least most b).2])):=fun b=>by
  refine ai 19 Tryz.func140 fun al w0 F0 St0=>?_;refine jU 512603162075116 ?_;refine aq (fun h260=>?_) fun h260=>?_
  ·refine iy ?_;refine ff (.rd 0 (.rd 1 (.rd 2 .done))) ?_;refine bV (dy 1) ?_;refine jU 80003000500070008807070 ?_
   have e:jF least most b=([],2):=by unfold jF;rw [jP]
   rw [e]
   exact cT cN cZ
  refine jU 51260316 ?_;refine aq (fun h262=>?_) fun h262=>?_
  rotate_left
  ·refine jU 8000700051116840010 ?_
   have e:jF least most b=(b,0):=by unfold jF;rw [jK,jK]
   rw [e]
   exact cT cZ ab.nil
  refine iy ?_;refine ff (.rd 0 (.rd 1 (.rd 2 .done))) ?_;refine bV (dy 2) ?_;refine jU 80003000500070008807070 ?_
  have e:jF least most b=([],3):=by unfold jF;rw [jK,jP]
  rw [e]
  exact cT cN cZ
 refine ai 10 Tryz.func66 fun al w0 F0 St0=>?_;refine cy ?_
 refine ak (cE 1 fun p1=>?_)
 refine ak (cE 1 fun p2=>?_)
 refine jU 51 ?_;refine jE (freeze 1 rfl) ?_;refine jE (freeze 2 rfl) ?_;refine jE (iP 4 (m:=1) rfl rfl jD) ?_;refine jE (iP 5 (m:=1) rfl rfl jD) ?_;refine jU 16 ?_;refine jq FN ?_
 refine ar (aJ 0 (Et (fv:=Ey least most) (by kernel_rfl) n l k 4 (jF least most) hl hb (fun b _=>g b)) ?_ (ho:=rfl) (he:=(.cons (se rfl cP) (.cons (se rfl cZ) (.cons (se rfl (ab.fn2' (ab.rp mV) (ab.rp mV))) .nil)))))
 refine jU 700051 ?_
 exact ba (.inl rfl) rfl (aA rfl (aP rfl)) cZ
theorem wN [mm gs] (n:Nat) (l:List (List UInt8)) (k:Nat) (most:Int) (hl:0<l.length∧l.length≤1000000) (hb:(aD l).length≤10000000) :
  AC gs Tryz.prog 121 [dA n l k] [.op 0 (some n) 0,.c (.int .i64 most)]
   (fun r H'=>r=au (if (ac 12 l k).is=true∧aN (ac 12 l k).body most=0 then (if aN (ac 12 l k).body most=0 then (ac 12 l k).body else []) else [])∧H'=[dA n (ac 12 l k).l (dX 12 l k fun b=>aN b most)]):=by
 have g:∀ b:List UInt8,b.length≤65530→bM gs Tryz.prog 195 (bu b::(List.range 1).map (fl [.rp 1 fun _=>.c (.int .i64 most)])) (.tup 2 (fl [au (if aN b most=0 then b else []),.err (aN b most)])):=fun b hb=>by
  refine ai 10 Tryz.func195 fun al w0 F0 St0=>?_;refine jU 60165116 ?_
  refine ak (ap (Ks b most jO) ?_)
  refine jU 511900900 ?_
  refine jR cX
 refine ai 8 Tryz.func121 fun al w0 F0 St0=>?_;refine cy ?_
 refine ak (cE 1 fun p1=>?_)
 refine jU 51 ?_;refine jE (freeze 1 rfl) ?_;refine jE (iP 3 (m:=1) rfl rfl jD) ?_;refine jU 16 ?_;refine jq FN ?_
 refine ar (aJ 0 (wK (fv:=fl [.rp 1 fun _=>.c (.int .i64 most)]) (by kernel_rfl) n l k 12 (fun b=>(if aN b most=0 then b else [],aN b most)) hl hb g) ?_ (ho:=rfl) (he:=(.cons (se rfl cP) (.cons (se rfl cZ) (.cons (se rfl (ab.fn1 (ab.rp mV))) .nil)))))
 refine jU 700051 ?_
 exact ba (.inl rfl) rfl (aA rfl (aP rfl)) cZ
end
section
variable {gs:List Nat} [fZ gs]
open Go.RowKit Cal

structure AA where
 kind:Int
 tag:Int
 least:Int
 most:Int
def J7 (a:AA):CV:=.agg 4 (fl [.c (.int .i64 a.kind),.c (.int .i64 a.tag),.c (.int .i64 a.least),.c (.int .i64 a.most)])
def vN (n:Int):VV:=⟨0,n,false,[],[]⟩
def vI (b:Bool):VV:=⟨0,0,b,[],[]⟩
def vB (b:List UInt8):VV:=⟨0,0,false,b,[]⟩
def vT (t:List UInt8):VV:=⟨0,0,false,[],t⟩
def saidM (a:AA) (b:List UInt8):VV×Nat :=
 if a.kind=3 then (vN (aI b a.least a.most).1,(aI b a.least a.most).2) else
 if a.kind=4 then (vN (aI b a.least a.most).1,(aI b a.least a.most).2) else
 if a.kind=5 then (vI (tX b).1,(tX b).2) else
 if a.kind=6 then (vB (jF a.least a.most b).1,(jF a.least a.most b).2) else
 if a.kind=7 then (vT (if aN b a.most=0 then b else []),aN b a.most) else
 if a.kind=8 then (vT (dM b).1,(dM b).2) else
 if a.kind=9 then (vN (gJ b),gV b) else (vN ((AJ b).1:Nat),(AJ b).2)
def bO (a:AA):Int:=if a.kind=3 then 2 else if a.kind=4 then 10 else if a.kind=5 then 1 else if a.kind=6 then 4 else if a.kind=7 then 12 else if a.kind=8 then 6 else if a.kind=9 then 24 else 3
structure PS where
 l:List (List UInt8)
 k:Nat
 v:VV
def eI (tag:Int) (said:List UInt8→VV×Nat) (l:List (List UInt8)) (k:Nat):PS :=
 ⟨(ac tag l k).l,dX tag l k fun b=>(said b).2,if (ac tag l k).is=true∧(said (ac tag l k).body).2=0 then (said (ac tag l k).body).1 else VV.none⟩
def aa (a:AA) (l:List (List UInt8)) (k:Nat):PS :=
 if a.kind=1 then ⟨an a.tag l k,(ag a.tag l k).k,vI (ag a.tag l k).is⟩ else
 if a.kind=2 then ⟨cQ l k,bc l k,VV.none⟩ else
 if a.kind=11 then ⟨(ac 0 l k).l,(ac 0 l k).k,vB (ac 0 l k).raw⟩ else eI (bO a) (saidM a) l k
theorem ln {α:Type} (c:α→VV) (z:α) (hz:c z=VV.none) {a:AA} {l:List (List UInt8)} {k:Nat} {t:Int} {f:List UInt8→α×Nat} (h1:a.kind≠1) (h2:a.kind≠2) (h3:a.kind≠11) (hs:saidM a=fun b=>(c (f b).1,(f b).2)) (ht:bO a=t) :
  aa a l k=⟨(ac t l k).l,dX t l k fun b=>(f b).2,c (if (ac t l k).is=true∧(f (ac t l k).body).2=0 then (f (ac t l k).body).1 else z)⟩:=by
 subst ht
 unfold aa
 rw [if_neg h1,if_neg h2,if_neg h3]
 unfold eI
 rw [hs]
 simp only
 split
 ·rfl
 ·rw [hz]
end
section
open Go.RowKit Cal
def ec (l:List (List UInt8)) (k:Nat):Nat:=cm l+if k=0 then 1 else 0
theorem qq (x:List UInt8):∀ {l:List (List UInt8)} {i:Nat},i<l.length→cm (l.set i x)+(l.getD i []).length=cm l+x.length
 | y::l,0,_=>by simp only [List.set_cons_zero,List.getD_cons_zero,cm,List.map_cons,List.sum_cons];omega
 | y::l,i+1,h=>by
  have:=qq x (l:=l) (i:=i) (by simpa using h)
  simp only [List.set_cons_succ,List.getD_cons_succ,cm,List.map_cons,List.sum_cons] at this ⊢
  omega
theorem DR (l:List (List UInt8)):(aD l).length≤cm l:=by
 unfold aD
 by_cases h:l.length-1<l.length
 ·have:=qq [] h
  simp only [List.length_nil] at this
  omega
 ·rw [List.getD_eq_getElem?_getD,List.getElem?_eq_none jO]
  simp
theorem tR {t:Int} {l:List (List UInt8)} {k:Nat} (hl:0<l.length):(k≠0→ac t l k=⟨l,k,0,[],[],false⟩)∧(ac t l k).l.length=l.length∧ec (ac t l k).l (ac t l k).k≤ec l k∧(k=0→ec (ac t l k).l (ac t l k).k<ec l k) ∧
  ((ac t l k).is=true↔(ac t l k).k=0)∧((ac t l k).is=true→k=0)∧((ac t l k).is=false→(ac t l k).l=l):=by
 have hb:=ew (aD l)
 have hs:=qq (ah (aD l)).rest (show l.length-1<l.length by omega)
 unfold ac
 by_cases h0:k≠0
 ·rw [if_pos h0]
  exact ⟨fun _=>rfl,rfl,Nat.le_refl _,fun h=>absurd h h0,by simp [h0],by simp,fun _=>rfl⟩
 ·have hk:k=0:=by omega
  subst hk
  rw [if_neg h0]
  by_cases h1:(ah (aD l)).e≠0
  ·rw [if_pos h1]
   refine ⟨fun h=>absurd rfl h,rfl,?_,fun _=>?_,by simp [h1],by simp,fun _=>rfl⟩ <;> (unfold ec;dsimp only;rw [if_neg h1];simp)
  ·rw [if_neg h1]
   by_cases h2:t≠0∧((ah (aD l)).tag:Int)≠t
   ·rw [if_pos h2]
    refine ⟨fun h=>absurd rfl h,rfl,?_,fun _=>?_,by simp,by simp,fun _=>rfl⟩ <;> (unfold ec;dsimp only;rw [if_neg jD];simp)
   ·rw [if_neg h2]
    have hr:=hb.2.2.2.2.2 jO
    have e:(l.getD (l.length-1) []).length=(aD l).length:=rfl
    refine ⟨fun h=>absurd rfl h,by simp,?_,fun _=>?_,by simp,by simp,fun h=>absurd h (by simp)⟩ <;> (unfold ec;dsimp only;rw [if_pos rfl];omega)
theorem FB (b:List UInt8) (h:(ah b).e=0):(ah b).body.length+(ah b).rest.length<b.length:=by
 have hm:=pW (b.drop 1)
 revert h
 unfold ah
 by_cases h0:b.length=0
 ·rw [if_pos h0];intro h;cases h
 ·rw [if_neg h0]
  by_cases h1:bP ((b.getD 0 0).toNat:Nat)=false
  ·rw [if_pos h1];intro h;cases h
  ·rw [if_neg h1]
   dsimp only
   by_cases h2:(cd (b.drop 1)).e≠0
   ·rw [if_pos h2];intro h;exact absurd h h2
   ·rw [if_neg h2]
    by_cases h3:65530<(cd (b.drop 1)).n
    ·rw [if_pos h3];intro h;cases h
    ·rw [if_neg h3]
     by_cases h4:(cd (b.drop 1)).rest.length<(cd (b.drop 1)).n
     ·rw [if_pos h4];intro h;cases h
     ·rw [if_neg h4]
      intro _
      have:=hm.1
      rw [List.length_drop] at this
      simp only [List.length_take,List.length_drop]
      omega
theorem mh {t:Int} {l:List (List UInt8)} {k:Nat} (hl:0<l.length):(k≠0→an t l k=l∧(ag t l k).k=k)∧ec (an t l k) (ag t l k).k≤ec l k∧(k=0→ec (an t l k) (ag t l k).k<ec l k) ∧
  ((ag t l k).k=0→(an t l k).length=l.length+1)∧((ag t l k).k≠0→(an t l k).length=l.length)∧((ag t l k).is=true↔(ag t l k).k=0):=by
 have hq:∀ q,q=(if cn l k=true∧bG t=false then 5 else k)→(k≠0→q=k)∧(k=0→q=0∨q=5):=by
  rintro _ rfl
  refine ⟨fun h=>if_neg ?_,fun h=>?_⟩
  ·rintro ⟨h1,_⟩
   unfold cn at h1
   simp [h] at h1
  ·subst h;split <;> simp
 unfold an ag
 generalize hk:(if cn l k=true∧bG t=false then 5 else k)=q
 obtain ⟨q1,q2⟩:=hq q hk.symm
 obtain ⟨n1,n2,n3,n4,n5,n6,n7⟩:=tR (t:=t) (l:=l) (k:=q) hl
 by_cases hi:(ac t l q).is=true
 ·have hk0:=n5.1 hi
  have hq0:=n6 hi
  subst hq0
  have hkz:k=0:=by rcases Nat.eq_zero_or_pos k with h|h;exact h;exact (q1 jO).symm
  subst hkz
  have hb:ec ((ac t l 0).l++[(ac t l 0).body]) (ac t l 0).k<ec l 0:=by
   rw [hk0]
   revert hi
   unfold ac
   rw [if_neg jD]
   by_cases h1:(ah (aD l)).e≠0
   ·rw [if_pos h1];intro h;cases h
   ·rw [if_neg h1]
    by_cases h2:t≠0∧((ah (aD l)).tag:Int)≠t
    ·rw [if_pos h2];intro h;cases h
    ·rw [if_neg h2]
     intro _
     have h3:=FB (aD l) jO
     have h4:=qq (ah (aD l)).rest (show l.length-1<l.length by omega)
     have e:(l.getD (l.length-1) []).length=(aD l).length:=rfl
     unfold ec
     dsimp only
     rw [qr,if_pos rfl]
     simp only [cm,List.map_cons,List.map_nil,List.sum_cons,List.sum_nil] at h4 ⊢
     omega
  rw [if_pos hi]
  refine ⟨fun h=>absurd rfl h,by omega,fun _=>hb,fun _=>by rw [List.length_append,n2];rfl,fun h=>absurd hk0 h,n5⟩
 ·have hi':(ac t l q).is=false:=by simpa using hi
  have hl':=n7 hi'
  have hk0:(ac t l q).k≠0:=fun h=>hi (n5.2 h)
  rw [if_neg hi,hl']
  refine ⟨fun h=>⟨rfl,?_⟩,?_,fun h=>?_,fun h=>absurd h hk0,fun _=>rfl,n5⟩
  ·have hq:=q1 h
   rw [n1 jO]
   exact hq
  ·unfold ec;rw [if_neg hk0];simp
  ·unfold ec;rw [if_neg hk0,if_pos h];simp
theorem gI {l:List (List UInt8)} {k:Nat} (hl:0<l.length):(k≠0→cQ l k=l∧bc l k=k)∧ec (cQ l k) (bc l k)≤ec l k∧(bc l k=0→k=0∧(cQ l k).length+1=l.length∧1<l.length)∧(bc l k≠0→cQ l k=l):=by
 have hk:(k≠0→bc l k=k):=fun h=>by unfold bc;rw [if_pos h]
 have h0:bc l k=0→k=0∧1<l.length:=fun h=>by
  unfold bc at h
  by_cases h1:k≠0
  ·rw [if_pos h1] at h;exact absurd h h1
  ·rw [if_neg h1] at h
   by_cases h2:l.length=1
   ·rw [if_pos h2] at h;cases h
   ·exact ⟨by omega,by omega⟩
 refine ⟨fun h=>⟨by unfold cQ;rw [hk h,if_neg h],hk h⟩,?_,fun h=>?_,fun h=>by unfold cQ;rw [if_neg h]⟩
 ·unfold cQ
  by_cases h:bc l k=0
  ·have h1:=h0 h
   rw [if_pos h]
   unfold ec
   rw [if_pos h,if_pos h1.1]
   have h2:=iV (ls:=l) (i:=l.length-1) jO
   have h3:l.take (l.length-1+1)=l:=List.take_of_length_le jO
   rw [h3] at h2
   omega
  ·rw [if_neg h]
   unfold ec
   rw [if_neg h]
   omega
 ·have h1:=h0 h
  unfold cQ
  rw [if_pos h,List.length_take]
  exact ⟨h1.1,by omega,h1.2⟩
theorem fU (a:AA) {l:List (List UInt8)} {k:Nat} (hl:0<l.length):(k≠0→(aa a l k).l=l∧(aa a l k).k=k)∧ec (aa a l k).l (aa a l k).k≤ec l k∧(k=0→a.kind≠2→ec (aa a l k).l (aa a l k).k<ec l k) ∧
  (a.kind=1→((aa a l k).k=0→(aa a l k).l.length=l.length+1)∧((aa a l k).k≠0→(aa a l k).l.length=l.length)) ∧
  (a.kind=2→((aa a l k).k=0→(aa a l k).l.length+1=l.length∧1<l.length)∧((aa a l k).k≠0→(aa a l k).l.length=l.length)) ∧
  (a.kind≠1→a.kind≠2→(aa a l k).l.length=l.length)∧((aa a l k).k=0→k=0):=by
 unfold aa
 by_cases h1:a.kind=1
 ·rw [if_pos h1]
  obtain ⟨e1,e2,e3,e4,e5,e6⟩:=mh (t:=a.tag) (l:=l) (k:=k) hl
  exact ⟨e1,e2,fun h _=>e3 h,fun _=>⟨e4,e5⟩,fun h=>by omega,fun h=>absurd h1 h,fun h=>Nat.eq_zero_of_not_pos fun hk=>by have h3:=(e1 jO).2;have h4:(ag a.tag l k).k=0:=h;omega⟩
 ·rw [if_neg h1]
  by_cases h2:a.kind=2
  ·rw [if_pos h2]
   obtain ⟨e1,e2,e3,e4⟩:=gI (l:=l) (k:=k) hl
   exact ⟨e1,e2,fun _ h=>absurd h2 h,fun h=>by omega,fun _=>⟨fun h=>(e3 h).2,fun h=>by dsimp only;rw [e4 h]⟩,fun _ h=>absurd h2 h,fun h=>(e3 h).1⟩
  ·rw [if_neg h2]
   have key:∀ (t:Int) (e:Nat),(k≠0→e=(ac t l k).k)→(e=0→(ac t l k).k=0)→(k≠0→(ac t l k).l=l∧e=k)∧ec (ac t l k).l e≤ec l k∧(k=0→ec (ac t l k).l e<ec l k)∧(ac t l k).l.length=l.length∧(e=0→k=0):=fun t e h3 h4=>by
    obtain ⟨n1,n2,n3,n4,n5,n6,n7⟩:=tR (t:=t) (l:=l) (k:=k) hl
    have hm:ec (ac t l k).l e≤ec (ac t l k).l (ac t l k).k:=by
     unfold ec
     by_cases h:e=0
     ·rw [if_pos h,if_pos (h4 h)];exact Nat.le_refl _
     ·rw [if_neg h];omega
    refine ⟨fun h=>⟨by rw [n1 h],by rw [h3 h,n1 h]⟩,by omega,fun h=>by have:=n4 h;omega,n2,fun h=>n6 (n5.2 (h4 h))⟩
   by_cases h3:a.kind=11
   ·rw [if_pos h3]
    obtain ⟨e1,e2,e3,e4,e5⟩:=key 0 (ac 0 l k).k (fun _=>rfl) id
    exact ⟨e1,e2,fun h _=>e3 h,fun h=>absurd h h1,fun h=>absurd h h2,fun _ _=>e4,e5⟩
   ·rw [if_neg h3]
    unfold eI
    have hv:∀ f:List UInt8→Nat,(k≠0→dX (bO a) l k f=(ac (bO a) l k).k)∧(dX (bO a) l k f=0→(ac (bO a) l k).k=0):=fun f=>by
     obtain ⟨n1,n2,n3,n4,n5,n6,n7⟩:=tR (t:=bO a) (l:=l) (k:=k) hl
     unfold dX
     refine ⟨fun h=>if_neg fun hi=>h (n6 hi),fun h=>?_⟩
     by_cases hi:(ac (bO a) l k).is=true
     ·exact n5.1 hi
     ·rw [if_neg hi] at h;exact h
    obtain ⟨e1,e2,e3,e4,e5⟩:=key (bO a) (dX (bO a) l k fun b=>(saidM a b).2) (hv _).1 (hv _).2
    exact ⟨e1,e2,fun h _=>e3 h,fun h=>absurd h h1,fun h=>absurd h h2,fun _ _=>e4,e5⟩
abbrev nA (α:Type):=List (List UInt8)→Nat→(List (List UInt8)×Nat)×α
structure oD {α:Type} (sp:nA α):Prop where
 mu:∀ l k,0<l.length→cn l k=true→ec (sp l k).1.1 (sp l k).1.2<ec l k
 len:∀ l k,0<l.length→cn l k=true→(sp l k).1.2=0→(sp l k).1.1.length=l.length
 grow:∀ l k,0<l.length→cn l k=true→l.length≤(sp l k).1.1.length∧(sp l k).1.1.length≤l.length+16
section
variable {α:Type} (sp:nA α) (l0:List (List UInt8)) (k0:Nat) (most:Int)
def bw:Nat→(List (List UInt8)×Nat)×List α
 | 0=>((l0,k0),[])
 | j+1=>((sp (bw j).1.1 (bw j).1.2).1,(bw j).2++[(sp (bw j).1.1 (bw j).1.2).2])
def qj (j:Nat):Bool:=cn (bw sp l0 k0 j).1.1 (bw sp l0 k0 j).1.2 && decide ((j:Int)<most)
def sB (p:Nat→Bool):Nat→Nat→Nat
 | 0,j=>j
 | n+1,j=>if p j=true then sB p n (j+1) else j
theorem tm (p:Nat→Bool):∀ n j,(∀ i,i<j→p i=true)→(∀ i,i<sB p n j→p i=true)∧(p (sB p n j)=false∨sB p n j=j+n)
 | 0,j,h=>⟨h,.inr rfl⟩
 | n+1,j,h=>by
  unfold sB
  by_cases hp:p j=true
  ·rw [if_pos hp]
   obtain ⟨h1,h2⟩:=tm p n (j+1) (fun i hi=>if e:i=j then e ▸ hp else h i jO)
   exact ⟨h1,h2.imp id (fun e=>by omega)⟩
  ·rw [if_neg hp]
   exact ⟨h,.inl (by simpa using hp)⟩
def jG:Nat:=sB (qj sp l0 k0 most) (ec l0 k0+1) 0
def fh:List (List UInt8)×Nat :=
 let s:=(bw sp l0 k0 (jG sp l0 k0 most)).1
 if cn s.1 s.2=true then (cQ s.1 3,bc s.1 3) else (cQ s.1 s.2,bc s.1 s.2)
theorem qt:∀ j,(bw sp l0 k0 j).2.length=j
 | 0=>rfl
 | j+1=>by
  show (_++[_]).length=_
  rw [List.length_append,qt j];rfl
variable {sp l0 k0 most}
theorem pO (ok:oD sp) (hl:0<l0.length):∀ j,(∀ i,i<j→qj sp l0 k0 most i=true)→ec (bw sp l0 k0 j).1.1 (bw sp l0 k0 j).1.2+j≤ec l0 k0∧((bw sp l0 k0 j).1.2=0→(bw sp l0 k0 j).1.1.length=l0.length)∧l0.length≤(bw sp l0 k0 j).1.1.length∧(bw sp l0 k0 j).1.1.length≤l0.length+16
 | 0,_=>⟨Nat.le_refl _,fun _=>rfl,Nat.le_refl _,by show l0.length≤l0.length+16;omega⟩
 | j+1,h=>by
  obtain ⟨h1,h2,h3,h4⟩:=pO ok hl j fun i hi=>h i jO
  have hg:=h j jO
  unfold qj at hg
  rw [Bool.and_eq_true] at hg
  have hk:=(kM hg.1).1
  have hlen:=h2 hk
  have hp:0<(bw sp l0 k0 j).1.1.length:=by omega
  have m1:=ok.mu _ _ hp hg.1
  have m2:=ok.len _ _ hp hg.1
  have m3:=ok.grow _ _ hp hg.1
  show ec (sp (bw sp l0 k0 j).1.1 (bw sp l0 k0 j).1.2).1.1 (sp (bw sp l0 k0 j).1.1 (bw sp l0 k0 j).1.2).1.2+(j+1)≤_∧((sp (bw sp l0 k0 j).1.1 (bw sp l0 k0 j).1.2).1.2=0→(sp (bw sp l0 k0 j).1.1 (bw sp l0 k0 j).1.2).1.1.length=_)∧_≤(sp (bw sp l0 k0 j).1.1 (bw sp l0 k0 j).1.2).1.1.length∧(sp (bw sp l0 k0 j).1.1 (bw sp l0 k0 j).1.2).1.1.length≤_
  exact ⟨by omega,fun e=>by rw [m2 e,hlen],by omega,by omega⟩
theorem qU (ok:oD sp) (hl:0<l0.length):(∀ i,i<jG sp l0 k0 most→qj sp l0 k0 most i=true)∧qj sp l0 k0 most (jG sp l0 k0 most)=false:=by
 obtain ⟨h1,h2⟩:=tm (qj sp l0 k0 most) (ec l0 k0+1) 0 (fun i hi=>absurd hi (Nat.not_lt_zero i))
 refine ⟨h1,?_⟩
 rcases h2 with h2|h2
 ·exact h2
 ·have:=(pO ok hl _ h1).1
  rw [h2] at this
  omega
theorem sv (ok:oD sp) (hl:0<l0.length) {j:Nat} (h1:∀ i,i<j→qj sp l0 k0 most i=true) (h2:qj sp l0 k0 most j=false):jG sp l0 k0 most=j:=by
 obtain ⟨h3,h4⟩:=qU (k0:=k0) (most:=most) ok hl
 rcases Nat.lt_trichotomy (jG sp l0 k0 most) j with h|h|h
 ·rw [h1 _ h] at h4;cases h4
 ·exact h
 ·rw [h3 _ h] at h2;cases h2
end
end
section
open Go.RowKit Cal
theorem nz {n:Nat} {x:UInt8} (h:n % 256=x.toNat):b8 n=x:=UInt8.toNat_inj.1 (by rw [eX,h])
theorem Iw {x:List UInt8} (h:x.length=1):x=[x.getD 0 0]:=by
 match x,h with
 | [a],_=>rfl
theorem Iv {x:List UInt8} (h:x.length=2):x=[x.getD 0 0,x.getD 1 0]:=by
 match x,h with
 | [a,b],_=>rfl
theorem CJ {x:List UInt8} (h:x.length=3):x=[x.getD 0 0,x.getD 1 0,x.getD 2 0]:=by
 match x,h with
 | [a,b,c],_=>rfl
theorem FI {x:List UInt8} (h:x.length=4):x=[x.getD 0 0,x.getD 1 0,x.getD 2 0,x.getD 3 0]:=by
 match x,h with
 | [a,b,c,d],_=>rfl
theorem CG {b:List UInt8} (h:(cd b).e=0):b=gF (cd b).n++(cd b).rest:=by
 revert h
 unfold cd
 by_cases h0:b.length=0
 ·rw [if_pos h0];intro h;cases h
 ·rw [if_neg h0]
  dsimp only
  have hb:b=b.getD 0 0::b.drop 1:=by
   match b,h0 with
   | c::r,_=>rfl
  generalize hc:b.getD 0 0=c at hb ⊢
  generalize hr:b.drop 1=r at hb ⊢
  subst hb
  have hc8:=c.toNat_lt
  by_cases h1:c.toNat≤127
  ·rw [if_pos h1]
   intro _
   unfold gF
   dsimp only
   rw [jP]
   rw [nz (show c.toNat % 256=c.toNat by omega)]
   rfl
  ·rw [if_neg h1]
   by_cases h2:c.toNat=128∨132<c.toNat
   ·rw [if_pos h2];intro h;cases h
   ·rw [if_neg h2]
    by_cases h3:r.length<c.toNat-128
    ·rw [if_pos h3];intro h;cases h
    ·rw [if_neg h3]
     by_cases h4:lO (r.take (c.toNat-128))≤127∨(r.getD 0 0).toNat=0
     ·rw [if_pos h4];intro h;cases h
     ·rw [if_neg h4]
      intro _
      dsimp only
      obtain ⟨h5,h6⟩:=not_or.1 h4
      have hd:c::r=c::(r.take (c.toNat-128)++r.drop (c.toNat-128)):=by rw [List.take_append_drop]
      have hl:(r.take (c.toNat-128)).length=c.toNat-128:=by rw [List.length_take];omega
      have h0r:(r.take (c.toNat-128)).getD 0 0=r.getD 0 0:=by
       simp only [List.getD_eq_getElem?_getD,List.getElem?_take]
       rw [jP]
      rw [hd]
      rw [← h0r] at h6
      generalize r.drop (c.toNat-128)=q at *
      generalize r.take (c.toNat-128)=x at *
      have hcx:c=b8 c.toNat:=(nz jO).symm
      obtain e|e|e|e:c.toNat=129∨c.toNat=130∨c.toNat=131∨c.toNat=132:=by omega
      ·have hx:=Iw (x:=x) jO
       generalize x.getD 0 0=x0 at hx h6
       subst hx
       have h7:=x0.toNat_lt
       simp only [lO,List.foldl_cons,List.foldl_nil,Nat.zero_mul,Nat.zero_add] at h5 ⊢
       unfold gF
       rw [jK,jP,nz (show x0.toNat % 256=x0.toNat by omega),hcx,e]
       rfl
      ·have hx:=Iv (x:=x) jO
       generalize x.getD 0 0=x0 at hx h6
       generalize x.getD 1 0=x1 at hx
       subst hx
       have h7:=x0.toNat_lt
       have h8:=x1.toNat_lt
       simp only [lO,List.foldl_cons,List.foldl_nil,Nat.zero_mul,Nat.zero_add] at h5 ⊢
       unfold gF
       rw [jK,jK,jP,nz (show (x0.toNat * 256+x1.toNat) / 256 % 256=x0.toNat by omega),nz (show (x0.toNat * 256+x1.toNat) % 256=x1.toNat by omega),hcx,e]
       rfl
      ·have hx:=CJ (x:=x) jO
       generalize x.getD 0 0=x0 at hx h6
       generalize x.getD 1 0=x1 at hx
       generalize x.getD 2 0=x2 at hx
       subst hx
       have h7:=x0.toNat_lt
       have h8:=x1.toNat_lt
       have h9:=x2.toNat_lt
       simp only [lO,List.foldl_cons,List.foldl_nil,Nat.zero_mul,Nat.zero_add] at h5 ⊢
       unfold gF
       rw [jK,jK,jK,jP,nz (show ((x0.toNat * 256+x1.toNat) * 256+x2.toNat) / 65536 % 256=x0.toNat by omega),nz (show ((x0.toNat * 256+x1.toNat) * 256+x2.toNat) / 256 % 256=x1.toNat by omega),nz (show ((x0.toNat * 256+x1.toNat) * 256+x2.toNat) % 256=x2.toNat by omega),hcx,e]
       rfl
      ·have hx:=FI (x:=x) jO
       generalize x.getD 0 0=x0 at hx h6
       generalize x.getD 1 0=x1 at hx
       generalize x.getD 2 0=x2 at hx
       generalize x.getD 3 0=x3 at hx
       subst hx
       have h7:=x0.toNat_lt
       have h8:=x1.toNat_lt
       have h9:=x2.toNat_lt
       have h10:=x3.toNat_lt
       simp only [lO,List.foldl_cons,List.foldl_nil,Nat.zero_mul,Nat.zero_add] at h5 ⊢
       unfold gF
       rw [jK,jK,jK,jK,nz (show (((x0.toNat * 256+x1.toNat) * 256+x2.toNat) * 256+x3.toNat) / 16777216 % 256=x0.toNat by omega),nz (show (((x0.toNat * 256+x1.toNat) * 256+x2.toNat) * 256+x3.toNat) / 65536 % 256=x1.toNat by omega),nz (show (((x0.toNat * 256+x1.toNat) * 256+x2.toNat) * 256+x3.toNat) / 256 % 256=x2.toNat by omega),nz (show (((x0.toNat * 256+x1.toNat) * 256+x2.toNat) * 256+x3.toNat) % 256=x3.toNat by omega),hcx,e]
       rfl
theorem Ic {b:List UInt8} (h:(ah b).e=0):bP ((ah b).tag:Nat)=true:=by
 revert h
 unfold ah
 by_cases h0:b.length=0
 ·rw [if_pos h0];intro h;cases h
 ·rw [if_neg h0]
  by_cases h1:bP ((b.getD 0 0).toNat:Nat)=false
  ·rw [if_pos h1];intro h;cases h
  ·rw [if_neg h1]
   dsimp only
   by_cases h2:(cd (b.drop 1)).e≠0
   ·rw [if_pos h2];intro h;exact absurd h h2
   ·rw [if_neg h2]
    by_cases h3:65530<(cd (b.drop 1)).n
    ·rw [if_pos h3];intro h;cases h
    ·rw [if_neg h3]
     by_cases h4:(cd (b.drop 1)).rest.length<(cd (b.drop 1)).n
     ·rw [if_pos h4];intro h;cases h
     ·rw [if_neg h4]
      intro _
      simpa using h1
theorem CB {b:List UInt8} (h:(ah b).e=0):b=dl ((ah b).tag:Nat) (ah b).body++(ah b).rest∧bP ((ah b).tag:Nat)=true∧(ah b).body.length≤65530:=by
 refine ⟨?_,Ic h,(ew b).2.2.1⟩
 revert h
 unfold ah
 by_cases h0:b.length=0
 ·rw [if_pos h0];intro h;cases h
 ·rw [if_neg h0]
  by_cases h1:bP ((b.getD 0 0).toNat:Nat)=false
  ·rw [if_pos h1];intro h;cases h
  ·rw [if_neg h1]
   dsimp only
   by_cases h2:(cd (b.drop 1)).e≠0
   ·rw [if_pos h2];intro h;exact absurd h h2
   ·rw [if_neg h2]
    have hm:=CG (b:=b.drop 1) jO
    by_cases h3:65530<(cd (b.drop 1)).n
    ·rw [if_pos h3];intro h;cases h
    ·rw [if_neg h3]
     by_cases h4:(cd (b.drop 1)).rest.length<(cd (b.drop 1)).n
     ·rw [if_pos h4];intro h;cases h
     ·rw [if_neg h4]
      intro _
      dsimp only
      have hb:b=b.getD 0 0::b.drop 1:=by
       match b,h0 with
       | c::r,_=>rfl
      have hc8:=(b.getD 0 0).toNat_lt
      have e:UInt8.ofNat (((b.getD 0 0).toNat:Nat):Int).toNat=b.getD 0 0:=by
       rw [Int.toNat_natCast,UInt8.ofNat_toNat]
      have hl:((cd (b.drop 1)).rest.take (cd (b.drop 1)).n).length=(cd (b.drop 1)).n:=by rw [List.length_take];omega
      unfold dl
      rw [e,hl,List.cons_append,List.append_assoc,List.take_append_drop,← hm]
      exact hb
theorem AG {t:Int} {l:List (List UInt8)} {k:Nat} (ht:t≠0) (h:(ac t l k).k=0):k=0∧aD l=dl t (ac t l k).body++(ah (aD l)).rest∧(ac t l k).l=l.set (l.length-1) (ah (aD l)).rest∧bP t=true∧(ac t l k).body.length≤65530∧(ac t l k).is=true:=by
 revert h
 unfold ac
 by_cases h0:k≠0
 ·rw [if_pos h0];intro h;exact absurd h h0
 ·rw [if_neg h0]
  by_cases h1:(ah (aD l)).e≠0
  ·rw [if_pos h1];intro h;exact absurd h h1
  ·rw [if_neg h1]
   by_cases h2:t≠0∧((ah (aD l)).tag:Int)≠t
   ·rw [if_pos h2];intro h;cases h
   ·rw [if_neg h2]
    intro _
    have h3:=CB (b:=aD l) jO
    have e:((ah (aD l)).tag:Int)=t:=Classical.byContradiction fun e=>h2 ⟨ht,e⟩
    rw [e] at h3
    exact ⟨by omega,h3.1,rfl,h3.2.1,h3.2.2,rfl⟩
theorem Cu {b:List UInt8} (h:(dM b).2=0):gT (dM b).1=b∧(bB (dM b).1).2=0:=by
 unfold dM at h ⊢
 by_cases h0:(fg b).2=0
 ·rw [if_pos h0]
  obtain ⟨h1,h2⟩:=Lo (b:=b) (l:=(fg b).1) (by rw [← h0])
  have h3:=Cr h2
  unfold gT
  dsimp only
  rw [h3]
  exact ⟨by rw [if_pos rfl];exact h1,rfl⟩
 ·rw [if_neg h0] at h;exact absurd h h0
theorem FT {b:List UInt8} (h:(bT b).2=0):fa (bT b).1=b:=by
 obtain ⟨h1,h2⟩:=I9 h
 obtain ⟨h3,h4⟩:=Ma h
 rw [← mH h3 h4 h1]
 exact h2
theorem lp {b:List UInt8} {x y:Int} (h:(aI b x y).2=0):fa (aI b x y).1=b∧(bT b).2=0∧(aI b x y).1=(bT b).1∧x≤(bT b).1∧(bT b).1≤y:=by
 unfold aI at h ⊢
 by_cases h0:(bT b).2≠0
 ·rw [if_pos h0] at h;exact absurd h h0
 ·rw [if_neg h0] at h ⊢
  by_cases h1:(bT b).1<x∨y<(bT b).1
  ·rw [if_pos h1] at h;cases h
  ·rw [if_neg h1]
   exact ⟨FT jO,by omega,rfl,by omega,by omega⟩
end
section
open Go.RowKit Cal
structure Q8 (x:List UInt8) (t:Nat) (b:List UInt8):Prop where
 nx:∀ r,ah (x++r)=⟨0,t,b,r⟩
 pos:0<x.length
 wh:∀ lv,lv≤16→(bm lv t b).2=0∨(bm lv t b).2=6
def QQ (x:List UInt8):Prop:=∃ t b,Q8 x t b
structure QR (s:W8):Prop where
 fr:∀ f ∈ s.fr,bG f.1=true∧∀ y ∈ f.2,QQ y
 d:∃ xs:List (List UInt8),s.d=xs.flatten∧∀ x ∈ xs,QQ x
end
section
open Go.RowKit Cal
def fJ (vs:List VV) (s:W8):W8:=vs.foldl (fun s v=>jj v s) s
def gR (vs:List VV) (r:R8):R8:=vs.foldl (fun r v=>cD v r) r
theorem pm (a b:List VV) (s:W8):fJ (a++b) s=fJ b (fJ a s):=by unfold fJ;rw [List.foldl_append]
theorem uR (a b:List VV) (r:R8):gR (a++b) r=gR b (gR a r):=by unfold gR;rw [List.foldl_append]
theorem qY {i j:Nat} {r:R8} {s:W8} (h:ie i r s) (hij:i≤j):ie j r s :=
 ⟨h.same,by have:=h.w;omega,fun x hx=>by have:=h.rows x hx;omega,h.n⟩
theorem tZ:∀ (vs:List VV) {i:Nat} {r:R8} {s:W8},ie i r s→(∀ v ∈ vs,jh v)→ie (i+vs.length) (gR vs r) (fJ vs s)
 | [],i,r,s,h,_=>h
 | v::vs,i,r,s,h,hv=>by
  have:=tZ vs (iz h (hv v List.mem_cons_self)) fun x hx=>hv x (List.mem_cons_of_mem _ hx)
  rw [List.length_cons,show i+(vs.length+1)=i+1+vs.length by omega]
  exact this
theorem Bp {v:VV} {s:W8} (h:s.k≠0):jj v s=s:=by
 have e1:∀ e,cj e s=s:=fun e=>by unfold cj;rw [if_neg h]
 unfold jj dw db Fl eZ
 simp only [e1,h,ne_eq,not_false_iff,if_true,if_false,ite_self]
theorem K5 {v:VV} {r:R8} (h:r.e≠0):cD v r=r:=by unfold cD;rw [if_pos h]
theorem uQ:∀ (vs:List VV) {r:R8},r.e≠0→gR vs r=r
 | [],r,_=>rfl
 | v::vs,r,h=>by
  show gR vs (cD v r)=r
  rw [K5 h]
  exact uQ vs h
theorem vF (s:W8):cj 0 s=s:=by
 unfold cj
 split
 ·rename_i h;rw [← h]
 ·rfl
theorem DN {t:Int} {s:W8} (hk:s.k=0) (ht:bG t=true) (hl:s.fr.length<16):dw t s=⟨(t,[])::s.fr,s.d,0⟩:=by
 unfold dw
 rw [jK,if_neg (by rw [ht];decide),jK,hk]
theorem uX {t:Int} {b:List UInt8} {s:W8} (hk:s.k=0) (ht:bP t=true) (hb:b.length≤65530):eZ t b 0 s=cG (dl t b) s:=by
 unfold eZ
 rw [vF,jK,if_neg (by unfold pT;rw [if_neg (by rw [ht];decide),jK];decide)]
theorem vW {t:Int} {ls:List (List UInt8)} {fr:List (Int×List (List UInt8))} {d:List UInt8} (ht:bP t=true) (h9:t≠49) (hb:ls.flatten.length≤65530):db ⟨(t,ls)::fr,d,0⟩=cG (dl t ls.flatten) ⟨fr,d,0⟩:=by
 have hf:k8 (t,ls)=ls.flatten:=by unfold k8;rw [if_neg h9]
 show eZ t (k8 (t,ls)) 0 ⟨fr,d,0⟩=_
 rw [hf,uX rfl ht hb]
def pz (x:Int×List UInt8):List UInt8:=dl x.1 x.2
structure Na (d:Nat) (x:Int×List UInt8):Prop where
 known:bP x.1=true
 len:x.2.length≤65530
 wh:∀ lv,d≤lv→(bm lv x.1.toNat x.2).2=0
theorem Na.mono {d e:Nat} {x:Int×List UInt8} (h:Na d x) (hd:d≤e):Na e x:=⟨h.known,h.len,fun lv hl=>h.wh lv jO⟩
theorem si {t:Int} {b:List UInt8} (hk:bP t=true) (hm:bG t=false) (hb:b.length≤65530):Na 1 (t,b) :=
 ⟨hk,hb,fun lv _=>by rw [pL (by rw [Int.toNat_of_nonneg (od hk).1];exact hm)]⟩
theorem Jt {x:Int×List UInt8} (hk:bP x.1=true) (hb:x.2.length≤65530) (r:List UInt8):ah (pz x++r)=⟨0,x.1.toNat,x.2,r⟩:=AF hk hb
theorem zd (x:Int×List UInt8):0<(pz x).length:=by unfold pz dl;simp
theorem AO {d lv:Nat} {rec:Nat→List UInt8→Nat×Nat} (hlv:1<lv):∀ (xs:List (Int×List UInt8)) (fuel:Nat) (last:List UInt8) (dp:Nat),(∀ x ∈ xs,Na d x∧(rec x.1.toNat x.2).2=0)→((xs.map pz).flatten).length≤fuel→(fI rec false lv fuel (xs.map pz).flatten last dp).2=0
 | [],fuel,last,dp,_,_=>by
  show (fI rec false lv fuel [] last dp).2=0
  rw [pf]
 | x::xs,fuel,last,dp,hx,hf=>by
  obtain ⟨h1,h2⟩:=hx x List.mem_cons_self
  rw [List.map_cons,List.flatten_cons] at hf ⊢
  have hp:=zd x
  have hn:=Jt h1.known h1.len (xs.map pz).flatten
  rw [List.length_append] at hf
  cases fuel with
  | zero=>omega
  | succ fuel =>
   unfold fI
   rw [hn]
   dsimp only
   rw [if_neg (by rw [List.length_append];omega),if_neg jD,jK,if_neg (by rw [h2];decide),if_neg (by simp)]
   exact AO hlv xs fuel _ _ (fun y hy=>hx y (List.mem_cons_of_mem _ hy)) jO
theorem AQ {d:Nat} {t:Int} {xs:List (Int×List UInt8)} (hd:1≤d) (hm:bG t=true) (h9:t≠49) (hx:∀ x ∈ xs,Na d x) (hl:((xs.map pz).flatten).length≤65530):Na (d+1) (t,(xs.map pz).flatten):=by
 have hk:=mQ hm
 refine ⟨hk,hl,fun lv h=>?_⟩
 obtain ⟨lv,rfl⟩:∃ m,lv=m+1:=⟨lv-1,by omega⟩
 have ht:((t.toNat:Nat):Int)=t:=Int.toNat_of_nonneg (od hk).1
 show (bm (lv+1) t.toNat (xs.map pz).flatten).2=0
 unfold bm
 rw [ht,if_neg (by rw [hm];decide)]
 have e:decide (t.toNat=49)=false:=by rw [decide_eq_false_iff_not];omega
 rw [e]
 exact AO (d:=d) jO xs _ _ _ (fun x h2=>⟨hx x h2,(hx x h2).wh lv jO⟩) (Nat.le_refl _)
theorem pa (ls:List (List UInt8)) (x:List UInt8):aD (ls++[x])=x:=by unfold aD;simp
theorem zW (ls:List (List UInt8)) (x y:List UInt8):(ls++[x]).set ((ls++[x]).length-1) y=ls++[y]:=by simp
theorem xp (ls:List (List UInt8)) {t:Int} {b:List UInt8} (r:List UInt8) (hk:bP t=true) (hb:b.length≤65530):∃ tg raw,ac t (ls++[dl t b++r]) 0=⟨ls++[r],0,tg,b,raw,true⟩:=by
 have hn:=AF (r:=r) hk hb
 have h0:=(od hk).1
 unfold ac
 rw [pa,hn,zW,if_neg jD,if_neg (by simp),if_neg (by dsimp only;rw [Int.toNat_of_nonneg h0];simp)]
 exact ⟨_,_,rfl⟩
theorem mO {ls:List (List UInt8)} {x:List UInt8} {t:Int} {k:Nat} (ht:t≠0) (h:(ac t (ls++[x]) k).k=0):k=0∧bP t=true∧∃ b r tg raw,x=dl t b++r∧b.length≤65530∧ac t (ls++[x]) k=⟨ls++[r],0,tg,b,raw,true⟩:=by
 obtain ⟨h1,h2,h3,h4,h5,h6⟩:=AG ht h
 rw [pa] at h2 h3
 rw [zW] at h3
 refine ⟨h1,h4,(ac t (ls++[x]) k).body,(ah x).rest,(ac t (ls++[x]) k).tag,(ac t (ls++[x]) k).raw,h2,h5,?_⟩
 rw [← h3]
 conv=>rhs;arg 2;rw [← h]
 conv=>rhs;arg 6;rw [← h6]
theorem Gf (ls:List (List UInt8)) {t:Int} {b:List UInt8} (r:List UInt8) (hm:bG t=true) (hb:b.length≤65530):an t (ls++[dl t b++r]) 0=ls++[r]++[b]∧(ag t (ls++[dl t b++r]) 0).k=0∧(ag t (ls++[dl t b++r]) 0).is=true:=by
 obtain ⟨tg,raw,hN⟩:=xp ls r (mQ hm) hb
 have hE:ag t (ls++[dl t b++r]) 0=⟨ls++[r],0,tg,b,raw,true⟩:=by
  unfold ag
  rw [if_neg (by rintro ⟨_,h⟩;rw [hm] at h;cases h),hN]
 unfold an
 rw [hE,if_pos rfl]
 exact ⟨rfl,rfl,rfl⟩
theorem qg {ls:List (List UInt8)} {x:List UInt8} {t:Int} {k:Nat} (ht:t≠0) (h:(ag t (ls++[x]) k).k=0):k=0∧∃ b r,x=dl t b++r∧b.length≤65530∧an t (ls++[x]) k=ls++[r]++[b]∧(ag t (ls++[x]) k).is=true:=by
 have hc:k=0∧ag t (ls++[x]) k=ac t (ls++[x]) k:=by
  unfold ag at h ⊢
  by_cases hc:cn (ls++[x]) k=true∧bG t=false
  ·rw [if_pos hc] at h
   exact absurd (mO ht h).1 jD
  ·rw [if_neg hc] at h ⊢
   exact ⟨(mO ht h).1,rfl⟩
 obtain ⟨hk,hE⟩:=hc
 rw [hE] at h
 obtain ⟨_,_,b,r,tg,raw,h1,h2,h3⟩:=mO ht h
 refine ⟨hk,b,r,h1,h2,?_,?_⟩
 ·unfold an
  rw [hE,h3,if_pos rfl]
 ·rw [hE,h3]
theorem eF (a:AA) (ha:a.kind=1) (l:List (List UInt8)) (k:Nat):(aa a l k).l=an a.tag l k∧(aa a l k).k=(ag a.tag l k).k:=by unfold aa;rw [if_pos ha];exact ⟨rfl,rfl⟩
theorem dK (a:AA) (ha:a.kind=2) (l:List (List UInt8)) (k:Nat):(aa a l k).l=cQ l k∧(aa a l k).k=bc l k:=by unfold aa;rw [jK,if_pos ha];exact ⟨rfl,rfl⟩
theorem FJ {ls:List (List UInt8)} (h:0<ls.length):cQ (ls++[[]]) 0=ls∧bc (ls++[[]]) 0=0:=by
 have hk:bc (ls++[[]]) 0=0:=by
  unfold bc
  rw [if_neg jD,if_neg (by rw [List.length_append,List.length_singleton];omega),pa,if_neg jD]
 unfold cQ
 rw [hk,if_pos rfl]
 exact ⟨by simp,rfl⟩
theorem pX {ls:List (List UInt8)} {x:List UInt8} {k:Nat} (h:bc (ls++[x]) k=0):k=0∧x=[]∧0<ls.length∧cQ (ls++[x]) k=ls:=by
 have h0:=h
 unfold bc at h
 by_cases h1:k≠0
 ·rw [if_pos h1] at h;exact absurd h h1
 ·rw [if_neg h1] at h
  by_cases h2:(ls++[x]).length=1
  ·rw [if_pos h2] at h;cases h
  ·rw [if_neg h2,pa] at h
   by_cases h3:0<x.length
   ·rw [if_pos h3] at h;cases h
   ·refine ⟨by omega,List.eq_nil_of_length_eq_zero jO,by rw [List.length_append,List.length_singleton] at h2;omega,?_⟩
    unfold cQ
    rw [h0,if_pos rfl]
    simp
theorem Ah (a:AA) (ls:List (List UInt8)) {b:List UInt8} (r:List UInt8) (ha:3≤a.kind∧a.kind≤10) (hb:b.length≤65530) (h:(saidM a b).2=0):aa a (ls++[dl (bO a) b++r]) 0=⟨ls++[r],0,(saidM a b).1⟩:=by
 have hk:bP (bO a)=true:=by
  unfold bO
  repeat' split
  all_goals decide
 obtain ⟨tg,raw,hN⟩:=xp ls r hk hb
 unfold aa eI dX
 rw [jK,jK,jK,hN]
 dsimp only
 rw [if_pos rfl,if_pos ⟨rfl,h⟩,h]
theorem oX {a:AA} {ls:List (List UInt8)} {x:List UInt8} {k:Nat} (ha:3≤a.kind∧a.kind≤10) (h:(aa a (ls++[x]) k).k=0):k=0∧∃ b r,x=dl (bO a) b++r∧b.length≤65530∧(saidM a b).2=0∧aa a (ls++[x]) k=⟨ls++[r],0,(saidM a b).1⟩:=by
 have ht:bO a≠0:=by
  unfold bO
  repeat' split
  all_goals decide
 have e:aa a (ls++[x]) k=eI (bO a) (saidM a) (ls++[x]) k:=by unfold aa;rw [jK,jK,jK]
 have hn:(ac (bO a) (ls++[x]) k).k=0:=by
  rw [e] at h
  unfold eI dX at h
  dsimp only at h
  by_cases hi:(ac (bO a) (ls++[x]) k).is=true
  ·exact (tR (by simp)).2.2.2.2.1.1 hi
  ·rw [if_neg hi] at h;exact h
 obtain ⟨h1,h2,b,r,tg,raw,h3,h4,h5⟩:=mO ht hn
 rw [e] at h ⊢
 unfold eI dX at h ⊢
 rw [h5] at h ⊢
 dsimp only at h ⊢
 rw [if_pos rfl] at h
 exact ⟨h1,b,r,h3,h4,h,by rw [if_pos rfl,if_pos ⟨rfl,h⟩,h]⟩
theorem Js {l:List (List UInt8)} {k:Nat} (hl:0<l.length) (h:ke l k=0):k=0∧l=[[]]:=by
 unfold ke at h
 by_cases h1:k≠0
 ·rw [if_pos h1] at h;exact absurd h h1
 ·rw [if_neg h1] at h
  by_cases h2:1<l.length
  ·rw [if_pos h2] at h;cases h
  ·rw [if_neg h2] at h
   by_cases h3:0<(l.getD 0 []).length
   ·rw [if_pos h3] at h;cases h
   ·refine ⟨by omega,?_⟩
    obtain ⟨x,rfl⟩:=List.length_eq_one_iff.1 (show l.length=1 by omega)
    have:x=[]:=List.eq_nil_of_length_eq_zero (by simpa using h3)
    rw [this]
end
section
open Go.RowKit Cal
structure Di {α:Type} (sp:nA α) (enc:α→List UInt8) (good:α→Prop):Prop where
 fwd:∀ (ls:List (List UInt8)) a r,good a→sp (ls++[enc a++r]) 0=((ls++[r],0),a)
 back:∀ (ls:List (List UInt8)) x k,(sp (ls++[x]) k).1.2=0→k=0∧∃ a r,good a∧x=enc a++r∧sp (ls++[x]) k=((ls++[r],0),a)
 pos:∀ a,good a→0<(enc a).length
section
variable {α:Type} {sp:nA α} {enc:α→List UInt8} {good:α→Prop}
theorem Dt (h:Di sp enc good) {most:Int} {k0:Nat} (ls:List (List UInt8)) (x:List UInt8):∀ j,(∀ i,i<j→qj sp (ls++[x]) k0 most i=true)→(bw sp (ls++[x]) k0 j).1.2=0→∃ y,(bw sp (ls++[x]) k0 j).1.1=ls++[y]∧x=((bw sp (ls++[x]) k0 j).2.map enc).flatten++y∧∀ a ∈ (bw sp (ls++[x]) k0 j).2,good a
 | 0,_,hk=>⟨x,rfl,rfl,fun a ha=>by cases ha⟩
 | j+1,hgo,hk=>by
  have hg:=hgo j jO
  unfold qj at hg
  rw [Bool.and_eq_true] at hg
  have hkj:=(kM hg.1).1
  obtain ⟨y,h1,h2,h3⟩:=Dt h (most:=most) ls x j (fun i hi=>hgo i jO) hkj
  have hk':(sp (bw sp (ls++[x]) k0 j).1.1 (bw sp (ls++[x]) k0 j).1.2).1.2=0:=hk
  rw [h1] at hk'
  obtain ⟨_,a,r,h4,h5,h6⟩:=h.back ls y _ hk'
  refine ⟨r,?_,?_,?_⟩
  ·show (sp (bw sp (ls++[x]) k0 j).1.1 (bw sp (ls++[x]) k0 j).1.2).1.1=_
   rw [h1,h6]
  ·show x=(((bw sp (ls++[x]) k0 j).2++[(sp (bw sp (ls++[x]) k0 j).1.1 (bw sp (ls++[x]) k0 j).1.2).2]).map enc).flatten++r
   rw [h1,h6,List.map_append,List.flatten_append,List.append_assoc]
   rw [h5] at h2
   simpa using h2
  ·intro b hb
   have hb':b ∈ (bw sp (ls++[x]) k0 j).2++[(sp (bw sp (ls++[x]) k0 j).1.1 (bw sp (ls++[x]) k0 j).1.2).2]:=hb
   rw [h1,h6] at hb'
   rcases List.mem_append.1 hb' with hb'|hb'
   ·exact h3 b hb'
   ·rw [List.mem_singleton.1 hb'];exact h4
theorem Hk (ok:oD sp) (h:Di sp enc good) {tag most:Int} {k:Nat} (ls:List (List UInt8)) (x:List UInt8) (ht:tag≠0) (he:(fh sp (an tag (ls++[x]) k) (ag tag (ls++[x]) k).k most).2=0) :
  k=0∧∃ xs r,(∀ a ∈ xs,good a)∧(xs=[]∨(xs.length:Int)≤most)∧((xs.map enc).flatten).length≤65530∧x=dl tag (xs.map enc).flatten++r∧fh sp (an tag (ls++[x]) k) (ag tag (ls++[x]) k).k most=(ls++[r],0) ∧
   (bw sp (an tag (ls++[x]) k) (ag tag (ls++[x]) k).k (jG sp (an tag (ls++[x]) k) (ag tag (ls++[x]) k).k most)).2=xs:=by
 have hlen:0<(an tag (ls++[x]) k).length:=by
  obtain ⟨_,_,_,e4,e5,_⟩:=mh (t:=tag) (l:=ls++[x]) (k:=k) (by simp)
  by_cases h0:(ag tag (ls++[x]) k).k=0
  ·rw [e4 h0];omega
  ·rw [e5 h0];simp
 obtain ⟨hgo,hstop⟩:=qU (k0:=(ag tag (ls++[x]) k).k) (most:=most) ok hlen
 have hbd:=pO (k0:=(ag tag (ls++[x]) k).k) (most:=most) ok hlen
 have hE:fh sp (an tag (ls++[x]) k) (ag tag (ls++[x]) k).k most=(cQ (bw sp (an tag (ls++[x]) k) (ag tag (ls++[x]) k).k (jG sp (an tag (ls++[x]) k) (ag tag (ls++[x]) k).k most)).1.1 (bw sp (an tag (ls++[x]) k) (ag tag (ls++[x]) k).k (jG sp (an tag (ls++[x]) k) (ag tag (ls++[x]) k).k most)).1.2,bc (bw sp (an tag (ls++[x]) k) (ag tag (ls++[x]) k).k (jG sp (an tag (ls++[x]) k) (ag tag (ls++[x]) k).k most)).1.1 (bw sp (an tag (ls++[x]) k) (ag tag (ls++[x]) k).k (jG sp (an tag (ls++[x]) k) (ag tag (ls++[x]) k).k most)).1.2):=by
  unfold fh at he ⊢
  dsimp only at he ⊢
  split at he
  ·exfalso
   dsimp only at he
   unfold bc at he
   rw [if_pos jD] at he
   cases he
  ·rename_i hm
   rw [if_neg hm]
 rw [hE] at he
 dsimp only at he
 have hkJ:(bw sp (an tag (ls++[x]) k) (ag tag (ls++[x]) k).k (jG sp (an tag (ls++[x]) k) (ag tag (ls++[x]) k).k most)).1.2=0:=by
  refine Nat.eq_zero_of_not_pos fun hp=>?_
  have hp':(bw sp (an tag (ls++[x]) k) (ag tag (ls++[x]) k).k (jG sp (an tag (ls++[x]) k) (ag tag (ls++[x]) k).k most)).1.2≠0:=by omega
  unfold bc at he
  rw [if_pos hp'] at he
  exact hp' he
 have hk0:(ag tag (ls++[x]) k).k=0:=by
  rcases Nat.eq_zero_or_pos (jG sp (an tag (ls++[x]) k) (ag tag (ls++[x]) k).k most) with hz|hz
  ·rw [hz] at hkJ;exact hkJ
  ·have hg:=hgo 0 hz
   unfold qj at hg
   rw [Bool.and_eq_true] at hg
   exact (kM hg.1).1
 obtain ⟨hk,b,r,h1,h2,h3,h4⟩:=qg ht hk0
 have hJlen:jG sp (an tag (ls++[x]) k) (ag tag (ls++[x]) k).k most=0∨((jG sp (an tag (ls++[x]) k) (ag tag (ls++[x]) k).k most:Nat):Int)≤most:=by
  rcases Nat.eq_zero_or_pos (jG sp (an tag (ls++[x]) k) (ag tag (ls++[x]) k).k most) with hz|hz
  ·exact .inl hz
  ·have hg:=hgo (jG sp (an tag (ls++[x]) k) (ag tag (ls++[x]) k).k most-1) jO
   unfold qj at hg
   rw [Bool.and_eq_true,decide_eq_true_eq] at hg
   exact .inr jO
 rw [hE]
 rw [hk0,h3] at hgo hkJ he hJlen ⊢
 obtain ⟨y,h5,h6,h7⟩:=Dt h (ls++[r]) b _ hgo hkJ
 have hso:=qt sp (ls++[r]++[b]) 0 (jG sp (ls++[r]++[b]) 0 most)
 generalize jG sp (ls++[r]++[b]) 0 most=J at *
 rw [h5] at he
 obtain ⟨_,h8,_,h9⟩:=pX he
 subst h8
 rw [List.append_nil] at h6
 refine ⟨hk,(bw sp (ls++[r]++[b]) 0 J).2,r,h7,?_,by rw [← h6];exact h2,by rw [← h6];exact h1,?_,rfl⟩
 ·rcases hJlen with h|h
  ·exact .inl (List.eq_nil_of_length_eq_zero jO)
  ·exact .inr (by rw [hso];exact h)
 ·rw [h5,h9,he]
end
end
section
open Go.RowKit Cal
theorem iB {n p:Int} {c:UInt8} (h:n / p % 10=(c.toNat:Int)-48) (h2:48≤(c.toNat:Int)):iN n p=c:=by
 unfold iN
 refine UInt8.toNat_inj.1 ?_
 have h3:=c.toNat_lt
 rw [UInt8.toNat_ofNat']
 omega
theorem yM {b:List UInt8} (h:gV b=0):cW (kA (gJ b))=b∧ol (gJ b):=by
 have hf:iA b:=by
  unfold gV at h
  by_cases hf:iA b
  ·exact hf
  ·rw [if_neg hf] at h;cases h
 have hr:bE (dD b):=by
  unfold gV at h
  rw [if_pos hf] at h
  by_cases hr:bE (dD b)
  ·exact hr
  ·rw [if_neg hr] at h;cases h
 have hv:gJ b=my (dD b):=by unfold gJ;rw [if_pos ⟨hf,hr⟩]
 have hb:=yq hr
 have ho:kA (gJ b)=dD b:=by
  unfold kA
  rw [hv,if_pos hb,Cv hr]
 rw [ho,hv]
 refine ⟨?_,hb⟩
 obtain ⟨hl,hz,hd⟩:=hf
 have key:∀ i,i<15→(cW (dD b)).getD i 0=b.getD i 0:=by
  have d0:=hd 0 jD;have d1:=hd 1 jD;have d2:=hd 2 jD;have d3:=hd 3 jD;have d4:=hd 4 jD;have d5:=hd 5 jD;have d6:=hd 6 jD
  have d7:=hd 7 jD;have d8:=hd 8 jD;have d9:=hd 9 jD;have d10:=hd 10 jD;have d11:=hd 11 jD;have d12:=hd 12 jD;have d13:=hd 13 jD
  unfold i5 at d0 d1 d2 d3 d4 d5 d6 d7 d8 d9 d10 d11 d12 d13
  have ey:(dD b).y=1000 * dg b 0+100 * dg b 1+10 * dg b 2+dg b 3:=by show 100 * (10 * dg b 0+dg b 1)+(10 * dg b 2+dg b 3)=_;omega
  have em:(dD b).m=10 * dg b 4+dg b 5:=rfl
  have ed:(dD b).d=10 * dg b 6+dg b 7:=rfl
  have eh:(dD b).h=10 * dg b 8+dg b 9:=rfl
  have ei:(dD b).mi=10 * dg b 10+dg b 11:=rfl
  have es:(dD b).s=10 * dg b 12+dg b 13:=rfl
  unfold dg at ey em ed eh ei es
  intro i hi
  rcases i with _|_|_|_|_|_|_|_|_|_|_|_|_|_|_|i
  ·exact iB (n:=(dD b).y) (p:=1000) (c:=b.getD 0 0) jO jO
  ·exact iB (n:=(dD b).y) (p:=100) (c:=b.getD 1 0) jO jO
  ·exact iB (n:=(dD b).y) (p:=10) (c:=b.getD 2 0) jO jO
  ·exact iB (n:=(dD b).y) (p:=1) (c:=b.getD 3 0) jO jO
  ·exact iB (n:=(dD b).m) (p:=10) (c:=b.getD 4 0) jO jO
  ·exact iB (n:=(dD b).m) (p:=1) (c:=b.getD 5 0) jO jO
  ·exact iB (n:=(dD b).d) (p:=10) (c:=b.getD 6 0) jO jO
  ·exact iB (n:=(dD b).d) (p:=1) (c:=b.getD 7 0) jO jO
  ·exact iB (n:=(dD b).h) (p:=10) (c:=b.getD 8 0) jO jO
  ·exact iB (n:=(dD b).h) (p:=1) (c:=b.getD 9 0) jO jO
  ·exact iB (n:=(dD b).mi) (p:=10) (c:=b.getD 10 0) jO jO
  ·exact iB (n:=(dD b).mi) (p:=1) (c:=b.getD 11 0) jO jO
  ·exact iB (n:=(dD b).s) (p:=10) (c:=b.getD 12 0) jO jO
  ·exact iB (n:=(dD b).s) (p:=1) (c:=b.getD 13 0) jO jO
  ·exact (UInt8.toNat_inj.1 (show (90:UInt8).toNat=(b.getD 14 0).toNat by have e:(90:UInt8).toNat=90:=rfl;omega))
  ·omega
 refine List.ext_getElem (by rw [hl];rfl) fun i h1 h2=>?_
 have:=key i jO
 rw [List.getD_eq_getElem?_getD,List.getD_eq_getElem?_getD,List.getElem?_eq_getElem h1,List.getElem?_eq_getElem h2] at this
 exact this
theorem JU {v:VV} (hn:-9223372036854775808≤v.n∧v.n≤9223372036854775807) (ht:v.t.length≤300):(aH v).2.1.length≤max 300 v.b.length:=by
 by_cases h6:v.kind=6
 ·have e:aH v=(4,v.b,0):=by unfold aH;rw [jK,jK,jK,if_pos h6]
  rw [e]
  show v.b.length≤_
  omega
 ·have hs:jh ⟨v.kind,v.n,v.is,[],v.t⟩:=⟨hn,by simp,ht⟩
  have:=tA hs
  have e:aH ⟨v.kind,v.n,v.is,[],v.t⟩=aH v:=by
   unfold aH
   dsimp only
   rw [if_neg h6,if_neg h6]
  rw [e] at this
  omega
theorem LZ {i:Nat} {r:R8} {s:W8} (h:ie i r s) {v:VV} {u:Nat} (hn:-9223372036854775808≤v.n∧v.n≤9223372036854775807) (ht:v.t.length≤300) (hk:3≤v.kind∧v.kind≤10) (hu:1≤u) (hb:v.b.length+10≤400 * u):ie (i+u) (cD v r) (jj v s):=by
 have hs:=Dz h.same v
 have hw:wn (jj v s)≤wn s+400 * u:=by
  have e:jj v s=eZ (aH v).1 (aH v).2.1 (aH v).2.2 s:=by
   unfold jj
   rw [jK,jK,jK]
  have h1:=BR (aH v).1 (aH v).2.1 (aH v).2.2 s
  have h2:=JU hn ht
  rw [e]
  omega
 have hg:=A8 v r
 have h0:=h.w
 have hl:(cD v r).tags.length≤16:=by rw [hs.tags];simpa using hs.lim
 refine ⟨hs,by omega,fun x hx=>?_,?_⟩
 ·rcases hg.2 x hx with h1|h1|⟨y,b,h1,h2,h3⟩
  ·have:=h.rows x h1;omega
  ·subst h1;simp [cm]
  ·have ha:=wc hs
   rw [← h3] at ha
   refine ⟨?_,by omega⟩
   rw [h2,List.length_append,List.length_singleton]
   rcases h1 with h1|h1
   ·have:=h.rows y h1;omega
   ·subst h1;simp;omega
 ·have:=hg.1
  have:=h.n
  omega
end
section
open Go.RowKit Cal
theorem Dc {v:VV} (h:3≤v.kind∧v.kind≤10):(v.kind=3∧aH v=(2,fa v.n,0))∨(v.kind=4∧aH v=(10,fa v.n,0))∨(v.kind=5∧aH v=(1,[if v.is then 255 else 0],0))∨(v.kind=6∧aH v=(4,v.b,0)) ∨
  (v.kind=7∧aH v=(12,if aN v.t v.n=0 then v.t else [],aN v.t v.n))∨(v.kind=8∧aH v=(6,gT v.t,(bB v.t).2))∨(v.kind=9∧aH v=(24,if ol v.n then cW (kA v.n) else [],Az v.n))∨(v.kind=10∧aH v=(3,x9 v.n,M6 v.n)):=by
 obtain h|h|h|h|h|h|h|h:v.kind=3∨v.kind=4∨v.kind=5∨v.kind=6∨v.kind=7∨v.kind=8∨v.kind=9∨v.kind=10:=by omega
 ·exact .inl ⟨h,by unfold aH;rw [if_pos h]⟩
 ·exact .inr (.inl ⟨h,by unfold aH;rw [jK,if_pos h]⟩)
 ·exact .inr (.inr (.inl ⟨h,by unfold aH;rw [jK,jK,if_pos h]⟩))
 ·exact .inr (.inr (.inr (.inl ⟨h,by unfold aH;rw [jK,jK,jK,if_pos h]⟩)))
 ·exact .inr (.inr (.inr (.inr (.inl ⟨h,by unfold aH;rw [jK,jK,jK,jK,if_pos h]⟩))))
 ·exact .inr (.inr (.inr (.inr (.inr (.inl ⟨h,by unfold aH;rw [jK,jK,jK,jK,jK,if_pos h]⟩)))))
 ·exact .inr (.inr (.inr (.inr (.inr (.inr (.inl ⟨h,by unfold aH;rw [jK,jK,jK,jK,jK,jK,if_pos h]⟩))))))
 ·exact .inr (.inr (.inr (.inr (.inr (.inr (.inr ⟨h,by unfold aH;rw [jK,jK,jK,jK,jK,jK,jK]⟩))))))
theorem OZ {v:VV} (h:3≤v.kind∧v.kind≤10):bP (aH v).1=true∧bG (aH v).1=false∧(aH v).1≠0:=by
 obtain ⟨_,e⟩|⟨_,e⟩|⟨_,e⟩|⟨_,e⟩|⟨_,e⟩|⟨_,e⟩|⟨_,e⟩|⟨_,e⟩:=Dc h <;> (rw [e];dsimp only;decide)
theorem Mp {v:VV} (h:3≤v.kind∧v.kind≤10) (s:W8):jj v s=eZ (aH v).1 (aH v).2.1 (aH v).2.2 s:=by
 unfold jj
 rw [jK,jK,jK]
end
section
variable {gs:List Nat} [eN gs]

def QJ (l:List (List UInt8)):CV:=.rs 1 l.length fun i _=>au (l.getD i [])
def lR (s:S3):CV:=.agg 3 (fl [.c (.int .i64 s.1),au s.2.1,au s.2.2])
def wF (j:Nat):CV:=au (nk.getD j [])
theorem ML (j:Nat) (hj:j<5):ab (fl [au [110,111,100,101],au [119,111,114,107,108,111,97,100],au [111,112,101,114,97,116,111,114],au [98,111,111,116],au [99,97]] j) (wF j):=by
 rcases j with _|_|_|_|_|j <;> first|exact cZ|omega
theorem zH {gs:List Nat}:bM gs Tryz.prog 219 [] (QJ nk):=by
 refine ai 2 Tryz.func219 fun al w0 F0 St0=>?_;refine jU 6516 ?_
 refine ak (aU 5 1 Kg fun p1=>?_)
 refine jU 51 ?_;refine jE (gB 0 (m:=5) (F:=wF) rfl jD (fun _=>rfl) (fun j hj=>ML j hj)) ?_;refine jE (freeze 0 rfl) ?_;refine jE (eP 0 (fun a _=>au (nk.getD a [])) rfl rfl jD (fun a b ha hb=>ab.of_eq (by rw [show 0+(a * 1+b)=a by omega];rfl))) ?_
 refine jR (cX (hv:=cZ))
theorem Dn {gs:List Nat} (k:Int):bM gs Tryz.prog 181 [.c (.int .i64 k)] (au (fk k)):=by
 refine ai 14 Tryz.func181 fun al w0 F0 St0=>?_;refine jU 12167516 ?_;refine ay 5 (fun g13=>?_) fun g13=>?_
 ·refine jU 8000300070005169000510000000044 ?_;refine ab.strL ?_
  unfold fk
  by_cases h:k<1
  ·rw [if_pos h]
  ·rw [if_neg h,List.getD_eq_getElem?_getD,List.getElem?_eq_none (by show 5≤_;omega)];rfl
 refine jU 550021 ?_;refine aq (fun h13=>?_) fun h13=>?_
 ·refine jU 800030007000516 ?_;refine ab.strL ?_
  unfold fk
  by_cases h:k<1
  ·rw [if_pos h]
  ·rw [if_neg h,List.getD_eq_getElem?_getD,List.getElem?_eq_none (by show 5≤_;omega)];rfl
 refine jU 6810 ?_
 refine ak (aU 5 1 Kg fun p1=>?_)
 refine jU 91 ?_;refine bg (gB 0 (m:=5) (F:=wF) rfl jD (fun _=>rfl) (fun j hj=>ML j hj)) ?_;refine jq (fb (i:=(k-1).toNat) (hz:=by omega)) ?_;refine jU 800070005150 ?_;refine ab.strL ?_
 unfold fk
 rw [jK]
def IU (l:List (List UInt8)) (x:List UInt8):Int:=if x ∈ l then (l.idxOf x:Nat) else -1
theorem FV {gs:List Nat} (l:List (List UInt8)) (x:List UInt8):bM gs Tryz.prog 232 [QJ l,au x] (.c (.int .i64 (IU l x))):=by
 refine kg 0 rfl fun hlen=>?_;refine ai 19 Tryz.func232 fun al w0 F0 St0=>?_;refine jU 20513167516 ?_;refine aF (α:=Nat) [4,5,8,9,10,11,12,13,14,15,16,17,18] (fun i=>[(8,.c (.int .i64 (i:Nat)))]) (fun _=>[]) (fun i=>i≤l.length∧x ∉ l.take i) (fun i=>l.length-i) (0) ?_ (fun _=>rfl) ?_ ?_ ?_
 ·exact ⟨by omega,by simp⟩
 ·(repeat (first|exact bZ.nil|refine bZ.cons cZ ?_))
 ·(repeat (exact aS.nil))
 ·rintro i ⟨hi,he⟩
  refine jU 7526 ?_;refine aq (fun h97=>?_) fun h97=>?_
  rotate_left
  ·refine jU 8000700051684000200020006000 ?_;refine cI ?_
   have:l.take i=l:=List.take_of_length_le jO
   rw [this] at he
   unfold IU
   rw [if_neg he]
  refine jU 5600006070011165116207810 ?_;refine aq (fun h98=>?_) fun h98=>?_
  ·refine jU 80003000500030003000500070005116 ?_;refine cI ?_
   have hlt:i<l.length:=by omega
   have e:l.getD i []=l[i]:=by simp [List.getD,hlt]
   have hm:x ∈ l:=by rw [h98,e];exact List.getElem_mem hlt
   have hx:l.idxOf x=i:=by
    have e2:l=l.take i++l[i]::l.drop (i+1):=by rw [← List.drop_eq_getElem_cons hlt,List.take_append_drop]
    rw [e2,List.idxOf_append,if_neg he,h98,e]
    rw [← List.drop_eq_getElem_cons hlt,List.drop_eq_getElem_cons hlt,List.idxOf_cons_self,List.length_take]
    omega
   unfold IU
   rw [if_pos hm,hx]
  refine jU 8519200840010 ?_;refine aw (i+1) ?_ ?_
  ·exact ⟨by omega,fun hm=>by
    rw [List.take_succ_eq_append_getElem jO] at hm
    rcases List.mem_append.1 hm with h|h
    ·exact he h
    ·have e:l.getD i []=l[i]:=by simp [List.getD,show i<l.length by omega]
     simp at h
     rw [e] at h98
     exact h98 h⟩
  ·omega
theorem FX (x:List UInt8):IU nk x+1=sx x:=by unfold IU sx;split <;> simp
theorem l8 {gs:List Nat} (s:S3):bM gs Tryz.prog 109 [lR s] (.c (.bool (bx s))):=by
 refine ai 26 Tryz.func109 fun al w0 F0 St0=>?_;refine cy ?_
 refine ak (cE 3 fun p1=>?_)
 refine jU 1250906751 ?_;refine ay 6 (fun g27=>?_) fun g27=>?_
 ·refine jU 8000300070005169000510000000044441100000000444 ?_;refine cB ?_
  unfold bx
  (simp_all;omega)
 refine jU 150025090 ?_;refine ay 11 (fun g27_2=>?_) fun g27_2=>?_
 ·refine jU 800030007000516900051000000004444 ?_;refine cB ?_
  unfold bx
  (simp_all;omega)
 refine jU 501000 ?_
 refine ak (ap (vh s.2.2) ?_)
 refine jU 550030 ?_;refine aq (fun h27=>?_) fun h27=>?_
 ·refine jU 800030007000516 ?_;refine cB ?_
  unfold bx
  (simp_all;done)
 refine jU 52509067810 ?_;refine aq (fun h30=>?_) fun h30=>?_
 ·refine jU 501006 ?_
  refine ak (ap (vh s.2.1) ?_)
  refine jU 80003000700051 ?_;refine cB ?_
  unfold bx
  (simp_all;done)
 refine jU 800070005160000501006810 ?_;refine cB ?_
 unfold bx
 (simp_all;done)
theorem rS {gs:List Nat} (s:S3):bM gs Tryz.prog 111 [lR s] (.c (.bool (bx s))):=by
 have hw:fk s.1=[]↔¬ (1≤s.1∧s.1≤5):=wI s.1
 refine ai 22 Tryz.func111 fun al w0 F0 St0=>?_;refine cy ?_
 refine ak (cE 3 fun p1=>?_)
 refine jU 50906751 ?_
 refine ak (ap (Dn s.1) ?_)
 refine jU 160000 ?_;refine ay 7 (fun g21=>?_) fun g21=>?_
 ·refine jU 800030007000516900051000000004444 ?_;refine cB ?_
  unfold bx
  (simp_all;omega)
 refine jU 501000 ?_
 refine ak (ap (rU s.2.2) ?_)
 refine jU 550030 ?_;refine aq (fun h21=>?_) fun h21=>?_
 ·refine jU 800030007000516 ?_;refine cB ?_
  unfold bx
  (simp_all;done)
 refine jU 52509067810 ?_;refine aq (fun h24=>?_) fun h24=>?_
 ·refine jU 501006 ?_
  refine ak (ap (rU s.2.1) ?_)
  refine jU 80003000700051 ?_;refine cB ?_
  unfold bx
  (simp_all;done)
 refine jU 800070005160000501006810 ?_;refine cB ?_
 unfold bx
 (simp_all;done)
end
section
variable {gs:List Nat} [eN gs]

theorem DY {l:List UInt8} (h:lc l=true):l.length≤24:=(mc.1 h).2.1
theorem GF (k:Int):(fk k).length≤8:=by
 by_cases h:1≤k∧k≤5
 ·rcases kinds h.1 h.2 with rfl|rfl|rfl|rfl|rfl <;> decide
 ·rw [(wI k).2 h];simp
theorem GH {k:Int} (h1:1≤k) (h5:k≤5):nk.getD (k-1).toNat []=fk k:=by unfold fk;rw [jK]
theorem KY {s:S3} (h:bx s=true):1≤s.1∧s.1≤5∧s.2.2.length≤24∧s.2.1.length≤24:=by
 obtain ⟨h1,h5,hn,h2,hs⟩:=(ky s).1 h
 refine ⟨h1,h5,DY hn,?_⟩
 by_cases hk:s.1=2
 ·exact DY (h2 hk)
 ·rw [hs hk];simp
theorem ab.rsL {k n m:Nat} {f g:Nat→Nat→CV} (h:n=m) (hf:f=g):ab (.rs k n f) (.rs k m g):=by subst h hf;exact cZ
def fm (p:P2) (j:Nat):CV:=if j=0 then au p.1 else au p.2
def H0:List P2→Nat→CV:=eK 2 fm ([],[])
def iw (l:List P2):CV:=.rs 2 l.length fun i j=>fm (l.getD i ([],[])) j
theorem xh (p:P2) (j:Nat) (hj:j<2):ab (fl [au p.1,au p.2] j) (H0 [p] j):=by
 rcases j with _|_|j <;> first|exact cZ|omega
theorem xn (s:S3):bM gs Tryz.prog 170 [lR s] (.tup 2 (fl [iw (if bx s=true then aX s else []),.err (if bx s=true then 0 else 9)])):=by
 have hwl:=GF s.1
 refine ai 32 Tryz.func170 fun al w0 F0 St0=>?_;refine cy ?_
 refine ak (cE 3 fun p1=>?_)
 refine jU 67511 ?_;refine eL (aV 3) ?_
 refine ak (ap (l8 s) ?_)
 refine jU 530 ?_;refine aq (fun h38=>?_) fun h38=>?_
 ·refine iy ?_;refine ff (.rd 0 (.rd 1 (.rd 2 .done))) ?_;refine bV (dy 8) ?_;refine jU 8000300070008807070 ?_
  have hr:bx s=false:=by simpa using h38
  exact cT (ab.nilS' (by rw [if_neg (by simp [hr])];rfl)) (ab.errN (by rw [if_neg (by simp [hr])]))
 refine jU 7810 ?_
 have hr:bx s=true:=by simpa using h38
 obtain ⟨k1,k5,n1,n2⟩:=KY hr
 have hg:=GH k1 k5
 refine ff (.rd 1 (.rd 2 (.rd 3 (.one 0 (.rd 4 (.rd 5 (.rd 6 (.one 7 (.rd 8 .done))))))))) ?_;refine jU 900000 ?_;refine Ki (mS (hn:=by omega)) ?_;refine bV (IJ (hS:=by show _∧_;omega)) ?_
 refine kO (ap zH ?_)
 refine bV (fb (i:=(s.1-1).toNat) (hz:=by omega) (hS:=by (show _<(5:Nat);omega))) ?_;refine bV (vl (hn:=by omega)) ?_;refine bV (ae (n:=2) rfl dH pC rfl rfl) ?_
 refine kO (aU 2 2 dH fun p2=>?_)
 refine jU 788070 ?_;refine jE (gB 1 (m:=2) (F:=H0 [(mM,fk s.1)]) rfl jD (fun _=>rfl) (fun j hj=>by rw [← hg];exact xh (mM,_) j hj)) ?_;refine jU 560000501006 ?_;refine aq (fun h42=>?_) fun h42=>?_
 rotate_left
 ·refine jU 50100016810 ?_;refine jq (ae (n:=2) rfl dH pC rfl rfl) ?_
  refine ak (aU 2 2 dH fun p3=>?_)
  refine ar (av (ge 2 fm ([],[])) (l2:=[(mL,s.2.2)]) rfl rfl rfl rfl (by exact Nat.le_refl _) (fun _ _=>cZ) (aY rfl (.inl rfl) jD) rfl (fun j hj=>by rcases j with _|_|j <;> first|exact cZ|(exfalso;simp at hj <;> omega)) Tryz.underlying210 sZ sS dH tw rfl (by (simp;done)) (by (simp;done)) (bi rfl rfl) rfl rfl rfl (fun p4=>?_))
  refine jU 511 ?_;refine jE (freeze 1 rfl) ?_;refine jE (eP 2 (fun i j=>fm ((aX s).getD i ([],[])) j) rfl rfl (by exact Nat.le_refl _) (fun a b ha hb=>ab.of_eq (by rw [Nat.zero_add];refine (gL (k:=2) hb).trans ?_;unfold aX;(rw [if_pos (by simpa using h42)];rfl)))) ?_;refine jU 80007000 ?_
  refine cT (ab.rsL ?_ ?_) (ab.nilE (by rw [if_pos hr]))
  ·rw [if_pos hr];unfold aX;(rw [if_pos (by simpa using h42)];rfl)
  ·rw [if_pos hr]
 refine jU 501001200 ?_;refine jq (ae (n:=2) rfl dH pC rfl rfl) ?_
 refine ak (aU 2 2 dH fun p3=>?_)
 refine ar (av (ge 2 fm ([],[])) (l2:=[(pV,s.2.1)]) rfl rfl rfl rfl (by exact Nat.le_refl _) (fun _ _=>cZ) (aY rfl (.inl rfl) jD) rfl (fun j hj=>by rcases j with _|_|j <;> first|exact cZ|(exfalso;simp at hj <;> omega)) Tryz.underlying210 sZ sS dH tw rfl (by (simp;done)) (by (simp;done)) (bi rfl rfl) rfl rfl rfl (fun p4=>?_))
 refine jU 50100016851 ?_;refine jq (ae (n:=2) rfl dH pC rfl rfl) ?_
 refine ak (aU 2 2 dH fun p5=>?_)
 refine ar (av (ge 2 fm ([],[])) (l2:=[(mL,s.2.2)]) rfl rfl rfl rfl (by exact Nat.le_refl _) (fun _ _=>cZ) (aY rfl (.inl rfl) jD) rfl (fun j hj=>by rcases j with _|_|j <;> first|exact cZ|(exfalso;simp at hj <;> omega)) Tryz.underlying210 sZ sS dH tw rfl (by (simp;done)) (by (simp;done)) (bi rfl rfl) rfl rfl rfl (fun p6=>?_))
 refine jU 511 ?_;refine jE (freeze 1 rfl) ?_;refine jE (eP 2 (fun i j=>fm ((aX s).getD i ([],[])) j) rfl rfl (by exact Nat.le_refl _) (fun a b ha hb=>ab.of_eq (by rw [Nat.zero_add];refine (gL (k:=2) hb).trans ?_;unfold aX;(rw [if_neg h42];rfl)))) ?_;refine jU 80007000 ?_
 refine cT (ab.rsL ?_ ?_) (ab.nilE (by rw [if_pos hr]))
 ·rw [if_pos hr];unfold aX;(rw [if_neg h42];rfl)
 ·rw [if_pos hr]
theorem wW {gs:List Nat} (s:S3) (hr:bx s=true):bM gs Tryz.prog 158 [lR s] (iw (aX s)):=by
 have hp:=xf hr
 refine ai 24 Tryz.func158 fun al w0 F0 St0=>?_;refine cy ?_
 refine ak (cE 3 fun p1=>?_)
 refine jU 5090651 ?_
 refine ak (ap (Dn s.1) ?_)
 refine jq (ae (n:=2) rfl dH pC rfl rfl) ?_
 refine ak (aU 2 2 dH fun p2=>?_)
 refine jU 751 ?_;refine jE (gB 1 (m:=2) (F:=H0 [(mM,fk s.1)]) rfl jD (fun _=>rfl) (fun j hj=>xh (mM,_) j hj)) ?_;refine jU 5250906 ?_;refine aq (fun h33=>?_) fun h33=>?_
 rotate_left
 ·refine jU 50100016810 ?_;refine jq (ae (n:=2) rfl dH pC rfl rfl) ?_
  refine ak (aU 2 2 dH fun p3=>?_)
  refine ar (av (ge 2 fm ([],[])) (l2:=[(mL,s.2.2)]) rfl rfl rfl rfl (by exact Nat.le_refl _) (fun _ _=>cZ) (aY rfl (.inl rfl) jD) rfl (fun j hj=>by rcases j with _|_|j <;> first|exact cZ|(exfalso;simp at hj <;> omega)) Tryz.underlying210 sZ sS dH tw rfl (by (simp;done)) (by (simp;done)) (bi rfl rfl) rfl rfl rfl (fun p4=>?_))
  refine jU 51 ?_;refine jE (freeze 1 rfl) ?_;refine jE (eP 2 (fun i j=>fm ((aX s).getD i ([],[])) j) rfl rfl (by exact Nat.le_refl _) (fun a b ha hb=>ab.of_eq (by rw [Nat.zero_add];refine (gL (k:=2) hb).trans ?_;rw [hp];(rw [if_neg h33];rfl)))) ?_;refine jU 80007000 ?_
  refine ab.rsL ?_ rfl
  rw [hp];(rw [if_neg h33];rfl)
 refine jU 501001200 ?_;refine jq (ae (n:=2) rfl dH pC rfl rfl) ?_
 refine ak (aU 2 2 dH fun p3=>?_)
 refine ar (av (ge 2 fm ([],[])) (l2:=[(pV,s.2.1)]) rfl rfl rfl rfl (by exact Nat.le_refl _) (fun _ _=>cZ) (aY rfl (.inl rfl) jD) rfl (fun j hj=>by rcases j with _|_|j <;> first|exact cZ|(exfalso;simp at hj <;> omega)) Tryz.underlying210 sZ sS dH tw rfl (by (simp;done)) (by (simp;done)) (bi rfl rfl) rfl rfl rfl (fun p4=>?_))
 refine jU 50100016851 ?_;refine jq (ae (n:=2) rfl dH pC rfl rfl) ?_
 refine ak (aU 2 2 dH fun p5=>?_)
 refine ar (av (ge 2 fm ([],[])) (l2:=[(mL,s.2.2)]) rfl rfl rfl rfl (by exact Nat.le_refl _) (fun _ _=>cZ) (aY rfl (.inl rfl) jD) rfl (fun j hj=>by rcases j with _|_|j <;> first|exact cZ|(exfalso;simp at hj <;> omega)) Tryz.underlying210 sZ sS dH tw rfl (by (simp;done)) (by (simp;done)) (bi rfl rfl) rfl rfl rfl (fun p6=>?_))
 refine jU 51 ?_;refine jE (freeze 1 rfl) ?_;refine jE (eP 2 (fun i j=>fm ((aX s).getD i ([],[])) j) rfl rfl (by exact Nat.le_refl _) (fun a b ha hb=>ab.of_eq (by rw [Nat.zero_add];refine (gL (k:=2) hb).trans ?_;rw [hp];(rw [if_pos h33];rfl)))) ?_;refine jU 80007000 ?_
 refine ab.rsL ?_ rfl
 rw [hp];(rw [if_pos h33];rfl)
theorem qK {l:List P2} {i:Nat} (h:i<l.length):l.getD i ([],[])=l[i]:=by simp [List.getD,h]
theorem Gd {gs:List Nat} (l r:List P2):bM gs Tryz.prog 233 [iw l,iw r] (.c (.bool (decide (l=r)))):=by
 refine kg 0 rfl fun hlen=>?_;refine ai 26 Tryz.func233 fun al w0 F0 St0=>?_;refine jU 52313167516 ?_;refine aq (fun h21=>?_) fun h21=>?_
 ·refine jU 800030007000516 ?_;refine cB ?_
  refine (decide_eq_false fun h=>?_).symm
  rw [h] at h21;omega
 refine jU 20513167810 ?_;refine aF (α:=Nat) [4,5,13,14,15,16,17,18,19,20,21,22,23,24,25] (fun i=>[(13,.c (.int .i64 (i:Nat)))]) (fun _=>[]) (fun i=>i≤l.length∧l.take i=r.take i) (fun i=>l.length-i) (0) ?_ (fun _=>rfl) ?_ ?_ ?_
 ·exact ⟨by omega,by simp⟩
 ·(repeat (first|exact bZ.nil|refine bZ.cons cZ ?_))
 ·(repeat (exact aS.nil))
 ·rintro i ⟨hi,he⟩
  refine jU 7526 ?_;refine aq (fun h24=>?_) fun h24=>?_
  rotate_left
  ·refine jU 8000700051684000200020006000 ?_;refine cB ?_
   refine (decide_eq_true ?_).symm
   have e1:l.take i=l:=List.take_of_length_le jO
   have e2:r.take i=r:=List.take_of_length_le jO
   rw [← e1,he,e2]
  refine jU 75116207810 ?_;refine ff (.rd 0 (.rd 1 (.rd 2 (.rd 3 (.rd 4 (.rd 5 (.rd 6 (.rd 7 (.rd 8 .done))))))))) ?_;refine jU 900007070 ?_;refine bV (gq 2) ?_;refine jU 900007070 ?_;refine bV (gq 2) ?_;refine bV (Ap rfl rfl rfl Tryz.underlying212 (by kernel_rfl) (by kernel_rfl) (.str Tryz.underlying9 jD rfl rfl (.str Tryz.underlying9 jD rfl rfl .nil)) rfl) ?_;refine jU 880 ?_;refine aq (fun h25=>?_) fun h25=>?_
  ·refine jU 8000300050003000300050007000516 ?_;refine cB ?_
   refine (decide_eq_false fun h=>h25 ?_).symm
   rw [h];simp
  refine jU 8519200840010 ?_;refine aw (i+1) ?_ ?_
  ·refine ⟨by omega,?_⟩
   rw [List.take_succ_eq_append_getElem (show i<l.length by omega),List.take_succ_eq_append_getElem (show i<r.length by omega),he,← qK,← qK]
   have h25':(l.getD i ([],[]))=(r.getD i ([],[])):=by
    have:=Classical.byContradiction h25
    exact Prod.ext (sN.1 this.1) (sN.1 this.2.1)
   rw [h25']
  ·omega
end
end Am
end Go.Proofs.YthlpfjnkieaeeaaGreatDoor
