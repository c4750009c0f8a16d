/- What the law leans on, part 9: W08w, W08x, P08b, W08a, W08b, W08c, W08d, W08e, W08f, SsF, SsJ, W05f, W05g -/
import Derived.Test.YthlpfjnkieaeeaaGreatDoorM8ObjectsRead

set_option maxRecDepth 100000
namespace Go.Proofs.YthlpfjnkieaeeaaGreatDoor
set_option linter.unusedVariables false
namespace Am
open Go.RowKit
section
variable {gs:List Nat} [fZ gs]
open Go.RowKit Cal

structure Gy (s:R8):Prop where
 ok:PU s
 sum:∀ j,cm (s.rows.getD j [])≤1000000
 tag:∀ x ∈ s.tags,0≤x∧x<256
 lt:s.tags.length≠0→s.tags.length<s.rows.length
theorem Cg {gs:List Nat} (n:Nat) (s:R8) (hs:Gy s):AC gs Tryz.prog 82 [tD n s] [.op 0 (some n) 0] (fun r H'=>r=.tup 2 (fl [bu (pS s),.c (.int .i64 (fN s:Nat))])∧H'=[tD n s]):=by
 have hk0:=Ct hs.ok 0
 have hs0:=hs.sum 0
 have bad:∀ {e},fN s=e→e≠0→pS s=[]:=fun h h0=>by unfold pS;rw [h,if_neg h0]
 refine ai 48 Tryz.func82 fun al w0 F0 St0=>?_;refine jU 75116 ?_;refine jM 0 rfl fun gr=>?_;refine jU 525010004016 ?_;refine aq (fun h133=>?_) fun h133=>?_
 ·refine iy ?_;refine ff (.rd 0 (.rd 1 (.rd 2 (.rd 3 (.rd 4 (.rd 5 .done)))))) ?_;refine jU 5000070 ?_;refine bV (da 2 1 false) ?_;refine jU 30007000880707010000 ?_
  have e:fN s=s.e:=by unfold fN;rw [jP]
  exact bI (.inl rfl) n s 1 (bH rfl aG aG) (cT (by rw [bad e jO];exact cN) (cI (by rw [e]))) rfl rfl rfl (by exact cZ) (by exact cO rfl) (by exact cZ) (Nat.le_refl _) (fun _ _=>by exact cZ)
 refine jU 523509040167810 ?_;refine aq (fun h136=>?_) fun h136=>?_
 ·refine jU 300070005116 ?_
  have e:fN s=24:=by unfold fN;rw [jK,jP]
  exact bI (.inl rfl) n s 1 (bH rfl aG aG) (cT (by rw [bad e jO];exact cN) (cI (by rw [e];rfl))) rfl rfl rfl (by exact cZ) (by exact cO rfl) (by exact cZ) (Nat.le_refl _) (fun _ _=>by exact cZ)
 refine jU 6810 ?_
 refine ak (aU 0 1 f7 fun p1=>?_)
 refine jU 523501004016751 ?_;refine aq (fun h140=>?_) fun h140=>?_
 rotate_left
 ·refine jU 7810 ?_
  first
   |(have hiE:i=(s.rows.getD 0 []).length:=by omega
     subst hiE
     dsimp only
     rw [List.take_length] at *
     have hfl:=gt (s.rows.getD 0 []))
   |(have h00:s.rows.getD 0 []=[]:=by rw [List.getD_eq_getElem?_getD,List.getElem?_eq_none jO];rfl
     have hfl:((s.rows.getD 0 []).flatten).length=0:=by rw [h00];rfl)
  refine jU 52316 ?_;refine aq (fun h145=>?_) fun h145=>?_
  ·refine jU 300070005116 ?_
   first
    |(exfalso;simp at h145;done)
    |(have e:fN s=3:=by unfold fN;rw [jK,jK,jP]
      exact bI (.inl rfl) n s 1 (bH rfl aG aG) (cT (by rw [bad e jO];exact cN) (cI (by rw [e];rfl))) rfl rfl rfl (by exact cZ) (by exact cO rfl) (by exact cZ) (Nat.le_refl _) (fun _ _=>by exact cZ))
  refine jU 51116810 ?_;refine jE (freeze 2 rfl) ?_
  first
   | refine jE (kE 2 ((s.rows.getD 0 []).flatten) rfl rfl rfl rfl) ?_
   | refine jE (gP 2 [] rfl rfl rfl rfl .nil) ?_
  refine jU 7000 ?_
  have e:fN s=0:=by unfold fN;rw [jK,jK,jK]
  exact bI (.inl rfl) n s 1 (bH rfl aG aG) (cT (ab.bs (by unfold pS;rw [if_pos e];(rw [h00];rfl))) (cI (by rw [e];rfl))) rfl rfl rfl (by exact cZ) (by exact cO rfl) (by exact cZ) (Nat.le_refl _) (fun _ _=>by exact cZ)
 refine jU 20513502000000501004016 ?_;refine aF (α:=Nat×Option Nat) [4,6,36,37,38,39,40,41,42,43] (fun (i,g)=>[(4,.os 2 g 0 (((s.rows.getD 0 []).take i).flatten).length 1),(36,.c (.int .i64 (i:Nat)))]) (fun (i,g)=>[(some n,.blk 3 (nP s 1 gr)),(gr,.blk s.rows.length (dv s.rows)),(g,.blk (((s.rows.getD 0 []).take i).flatten).length (ft ((s.rows.getD 0 []).take i).flatten))]) (fun i=>i.1≤(s.rows.getD 0 []).length) (fun i=>(s.rows.getD 0 []).length-i.1) ((0,p1)) ?_ (fun _=>rfl) ?_ ?_ ?_
 ·exact Nat.zero_le _
 ·exact .cons (cO rfl) (.cons cZ .nil)
 ·exact .same (.same (.blk rfl (fun j hj=>absurd hj (Nat.not_lt_zero j)) .nil))
 ·rintro ⟨i,g⟩ (hi:i≤(s.rows.getD 0 []).length)
  refine jU 7526 ?_;refine aq (fun h141=>?_) fun h141=>?_
  ·refine jU 51607006207810 ?_
   have hf1:=iV (ls:=s.rows.getD 0 []) (i:=i) jO
   have hf2:=oK (s.rows.getD 0 []) (i+1)
   have hf3:=gt ((s.rows.getD 0 []).take i)
   refine jU 11200 ?_
   refine ar (bC rfl rfl rfl (Nat.le_refl _) (fun _ _=>cZ) (dj rfl) rfl (fun j hj=>by simp only [Nat.div_one];exact cZ) Tryz.underlying22 iM qi f7 rB rfl jO (fun j hj=>rfl) rfl rfl (fun p2=>?_))
   refine jU 8519200840051 ?_
   refine aw ((i+1,p2)) ?_ ?_ (h5:=?_) (h7:=?_)
   ·show i+1≤(s.rows.getD 0 []).length;omega
   ·show (s.rows.getD 0 []).length-(i+1)<(s.rows.getD 0 []).length-i;omega
   ·simp only [ia (show i<(s.rows.getD 0 []).length by omega)]
    exact .cons (cO rfl) (.cons (cI jO) .nil)
   ·simp only [ia (show i<(s.rows.getD 0 []).length by omega)]
    exact .same (.same (.same .nil))
  refine jU 784000200020006000 ?_
  first
   |(have hiE:i=(s.rows.getD 0 []).length:=by omega
     subst hiE
     dsimp only
     rw [List.take_length] at *
     have hfl:=gt (s.rows.getD 0 []))
   |(have h00:s.rows.getD 0 []=[]:=by rw [List.getD_eq_getElem?_getD,List.getElem?_eq_none jO];rfl
     have hfl:((s.rows.getD 0 []).flatten).length=0:=by rw [h00];rfl)
  refine jU 52316 ?_;refine aq (fun h145=>?_) fun h145=>?_
  ·refine jU 300070005116 ?_
   first
    |(exfalso;simp at h145;done)
    |(have e:fN s=3:=by unfold fN;rw [jK,jK,jP]
      exact bI (.inl rfl) n s 1 (bH rfl aG aG) (cT (by rw [bad e jO];exact cN) (cI (by rw [e];rfl))) rfl rfl rfl (by exact cZ) (by exact cO rfl) (by exact cZ) (Nat.le_refl _) (fun _ _=>by exact cZ))
  refine jU 51116810 ?_;refine jE (freeze 2 rfl) ?_
  first
   | refine jE (kE 2 ((s.rows.getD 0 []).flatten) rfl rfl rfl rfl) ?_
   | refine jE (gP 2 [] rfl rfl rfl rfl .nil) ?_
  refine jU 7000 ?_
  have e:fN s=0:=by unfold fN;rw [jK,jK,jK]
  exact bI (.inl rfl) n s 1 (bH rfl aG aG) (cT (ab.bs (by unfold pS;rw [if_pos e];done)) (cI (by rw [e];rfl))) rfl rfl rfl (by exact cZ) (by exact cO rfl) (by exact cZ) (Nat.le_refl _) (fun _ _=>by exact cZ)
end
section
variable {gs:List Nat} [fZ gs]
open Go.RowKit Cal

theorem xj {s:R8} (h:Gy s):PU ⟨s.tags.take (s.tags.length-1),s.rows,s.e⟩:=⟨by have:=h.ok.n;simp only [List.length_take];omega,h.ok.r,h.ok.k⟩
theorem JW (t:Int) (l:List (List UInt8)):k8 (t,l)=if t=49 then (fQ l).flatten else l.flatten:=rfl
theorem D4 {l:List Int} {i:Nat} (h:i<l.length-1):kQ l i=kQ (l.take (l.length-1)) i:=by
 simp only [kQ,List.getD_eq_getElem?_getD,List.getElem?_take,h,if_true]
def kq (t:Int) (l:List (List UInt8)):List (List UInt8):=if t=49 then fQ l else l
theorem AM (t:Int) (l:List (List UInt8)):k8 (t,l)=(kq t l).flatten:=by unfold kq;rw [JW];split <;> rfl
theorem LM (t:Int) (l:List (List UInt8)):(kq t l).length=l.length∧cm (kq t l)=cm l:=by
 unfold kq
 split
 ·exact ⟨mw l,zQ (iW l)⟩
 ·exact ⟨rfl,rfl⟩
theorem JT (v:VV):0≤(aH v).1∧(aH v).1<256:=by
 unfold aH
 repeat' split
 all_goals (constructor <;> dsimp only <;> omega)
theorem Gs {v:VV} (h:OC v):(aH v).2.1.length≤1000000:=by
 have h1:=h.b
 have h2:=h.t
 have h3:=(n8 v.n h.n.1 h.n.2).2
 have h4:=tP v.t
 unfold aH
 split
 ·show (fa v.n).length≤_;omega
 ·split
  ·show (fa v.n).length≤_;omega
  ·split
   ·show [if v.is then (255:UInt8) else 0].length≤_;simp
   ·split
    ·exact h1
    ·split
     ·show (if aN v.t v.n=0 then v.t else []).length≤_;split <;> first|omega|simp
     ·split
      ·show (gT v.t).length≤_;omega
      ·split
       ·show (if ol v.n then cW (kA v.n) else []).length≤_
        split
        ·exact Nat.le_trans (Nat.le_of_eq (show (cW (kA v.n)).length=15 from rfl)) jD
        ·simp
       ·show (x9 v.n).length≤_
        unfold x9
        split
        ·simp
        ·rw [xI jO]
         have:=(JX (m:=v.n.toNat) jO).2
         omega
set_option maxHeartbeats 4000000 in
theorem uP {gs:List Nat} (n:Nat) (s:R8) (v:VV) (hs:Gy s) (hv:OC v) (hB:v.kind≠1→v.kind≠2→v.kind≠11→AC gs Tryz.prog 157 [] [jY v] (En v)):AC gs Tryz.prog 80 [tD n s] [.op 0 (some n) 0,jY v] (fun r H'=>r=.c (.tuple #[])∧H'=[tD n (cD v s)]):=by
 have hsn:=hs.ok.n
 have hsr:=hs.ok.r
 have hvb:=hv.b
 have hkk:=Ct hs.ok s.tags.length
 have hss:=hs.sum s.tags.length
 refine ai 183 Tryz.func80 fun al w0 F0 St0=>?_;refine cy ?_
 refine ak (cE 5 fun p1=>?_)
 refine jU 75 ?_;refine jM 0 rfl fun gr=>?_;refine jE (freeze 1 rfl) ?_;refine jE (iP 3 (m:=5) rfl rfl jD) ?_
 dsimp only [List.set_cons_zero,List.set_cons_succ,List.cons_append,List.nil_append,List.length_cons,List.length_nil,Nat.zero_add,Nat.reduceAdd]
 refine jU 525010004016 ?_;refine aq (fun h81=>?_) fun h81=>?_
 ·refine jU 30007000 ?_
  rw [show cD v s=s by unfold cD;rw [jP]]
  exact bI (.inl rfl) n s 2 (bN rfl) cZ rfl rfl rfl (by exact cZ) (by exact cO rfl) (by exact cZ) (Nat.le_refl _) (fun _ _=>by exact cZ)
 refine jU 512620560906810 ?_;refine aq (fun h85=>?_) fun h85=>?_
 ·refine jU 601006 ?_
  refine ak (ap (qB v.n) ?_)
  refine jU 530 ?_;refine aq (fun h86=>?_) fun h86=>?_
  ·refine jU 1000401200 ?_
   refine ar (bh 1 (nP ⟨s.tags,s.rows,5⟩ 2 gr) ?_ ?_)
   ·exact (fun j hj=>by rcases j with _|_|_|j <;> exact cZ)
   refine jU 4005 ?_
   rw [show cD v s=⟨s.tags,s.rows,5⟩ by unfold cD;rw [jK,jP];unfold mE;rw [if_pos (by simp [bG] at h86 ⊢;omega)]]
   exact bI (.inr rfl) n ⟨s.tags,s.rows,5⟩ 2 (bN rfl) cZ rfl rfl rfl (by exact cZ) (by exact cO rfl) (by exact cZ) (Nat.le_refl _) (fun _ _=>by exact cZ)
  refine jU 52350904016 ?_;refine aq (fun h88=>?_) fun h88=>?_
  ·refine jU 1000401200 ?_
   refine ar (bh 1 (nP ⟨s.tags,s.rows,6⟩ 2 gr) ?_ ?_)
   ·exact (fun j hj=>by rcases j with _|_|_|j <;> exact cZ)
   refine jU 4005 ?_
   rw [show cD v s=⟨s.tags,s.rows,6⟩ by unfold cD;rw [jK,jP];unfold mE;rw [if_neg (by simp [bG] at h86 ⊢;omega),jP]]
   exact bI (.inr rfl) n ⟨s.tags,s.rows,6⟩ 2 (bN rfl) cZ rfl rfl rfl (by exact cZ) (by exact cO rfl) (by exact cZ) (Nat.le_refl _) (fun _ _=>by exact cZ)
  refine jU 207 ?_;refine aF (α:=Nat×Option Nat) [56,57,58,59,60,61,62,63,64,65,66,67,68,69,70,71,72,73,74,75,76] (fun i=>[]) (fun (i,g)=>[(some n,.blk 3 (nP (eJ s i) 2 g)),(p1,.frz 5 (fl [.c (.int .i64 v.kind),.c (.int .i64 v.n),.c (.bool v.is),bu v.b,au v.t])),(g,.blk (eJ s i).rows.length (dv (eJ s i).rows))]) (fun i=>i.1≤s.tags.length+2-s.rows.length) (fun i=>s.tags.length+2-s.rows.length-i.1) ((0,gr)) ?_ (fun _=>rfl) ?_ ?_ ?_
  ·exact Nat.zero_le _
  ·(repeat (exact bZ.nil))
  ·(show aS _ [(some n,bp.blk 3 (nP (eJ s 0) 2 gr)),_,(gr,.blk (eJ s 0).rows.length (dv (eJ s 0).rows))];rw [show eJ s 0=s by unfold eJ;simp];exact aS.refl _)
  ·rintro ⟨i,g⟩ (hi:i≤s.tags.length+2-s.rows.length)
   have hml:(eJ s i).rows.length=s.rows.length+i:=by simp [eJ]
   have hmt:(eJ s i).tags.length=s.tags.length:=rfl
   refine jU 77 ?_;refine ff (.rd 0 (.rd 1 (.rd 2 (.rd 3 (.rd 4 (.rd 5 (.rd 6 (.rd 7 (.rd 8 (.rd 9 (.rd 10 (.rd 11 .done)))))))))))) ?_;refine jU 8808003000020000100009000005000070200001000080000005000070 ?_;refine aq (fun h91=>?_) fun h91=>?_
   ·refine jU 50100401120020810 ?_
    refine ak (aU 1 1 Dl fun p2=>?_)
    refine bg (nl 3 1 (dv [[]]) rfl (Nat.le_refl _) (fun j hj=>by rcases j with _|j <;> first|exact ab.nilS _ _|omega)) ?_
    refine ar (av wX (l2:=[[]]) rfl rfl rfl rfl (Nat.le_of_eq (Nat.mul_one _)) (fun _ _=>cZ) (aY rfl (.inl rfl) jD) rfl (fun j hj=>by rw [Nat.zero_add];exact cZ) Tryz.underlying138 MR MM Dl M5 rfl (by simp;omega) (by simp;omega) (fun j hj=>rfl) rfl rfl (Nat.mul_one _) (fun p3=>?_))
    refine jU 10040 ?_
    refine ar (bh 1 (nP (eJ s (i+1)) 2 p3) ?_ ?_)
    ·exact (fun j hj=>by rcases j with _|_|_|j <;> first|exact cZ|exact cO (by rw [pd]))
    refine jU 84005 ?_
    refine aw ((i+1,p3)) ?_ ?_ (h7:=?_)
    ·(show i+1≤_;omega)
    ·(show _-(i+1)<_-i;omega)
    ·simp only [pd];exact aS.refl _
   refine jU 784000200020006000 ?_
   have hiE:i=s.tags.length+2-s.rows.length:=by omega
   have hpl:=mJ (s.tags.length+2) s.rows
   dsimp only
   rw [qN s i _ hiE]
   rw [qN s i _ hiE] at hml
   have hLl:([]++s.tags++[v.n]).length=s.tags.length+1:=by simp
   refine jI (.rd 0 (.rd 2 (.rd 3 (.rd 4 (.rd 5 (.rd 7 (.rd 8 (.two 1 (.two 6 (.one 9 (.one 10 (.rd 11 (.rd 12 (.one 13 .done))))) 9 (.one 6 (.one 10 (.rd 11 (.rd 12 (.one 13 .done)))))) 9 (.one 1 (.one 6 (.one 10 (.rd 11 (.rd 12 (.one 13 .done)))))))))))))) ?_;refine jU 6000000050000000100000009000000400000400000 ?_;refine ig vl ?_;refine vj ?_ ?_
   ·refine yW (aU 0 1 nj fun p2=>?_)
    refine vj ?_ ?_
    ·refine iL (av fS (l:=[]) rfl rfl rfl rfl (Nat.zero_le _) (fun j hj=>absurd hj (Nat.not_lt_zero j)) (dj rfl) rfl (fun j hj=>by simp only [Nat.div_one];exact cZ) Tryz.underlying137 lw uq nj Eh rfl (by (simp;omega)) (by (simp;omega)) (fun j hj=>rfl) rfl rfl (Nat.mul_one _) (fun p3=>?_))
     refine yW (aU 1 1 nj fun p4=>?_)
     refine iL (av fS (l2:=[v.n]) rfl rfl rfl rfl (by exact Nat.le_of_eq (Nat.mul_one _)) (fun _ _=>cZ) (aY rfl (.inl rfl) jD) rfl (lz (.cons (cI (rfl)) .nil)) Tryz.underlying137 lw uq nj Eh rfl (by (simp;omega)) (by (simp;omega)) (bi rfl rfl) rfl rfl (Nat.mul_one _) (fun p5=>?_))
     refine jU 100000009000000 ?_
     refine iL (ax 1 ?_)
     refine jU 8700000 ?_
     first
      |(refine jE (freeze 3 rfl) ?_;refine jE (thawC 0 0 3 (nP ⟨([]++s.tags++[v.n]),eu (s.tags.length+2) s.rows,s.e⟩ 2 g) (fun i _=>kQ ([]++s.tags++[v.n]) i) rfl rfl cZ cZ (fun j hj h0=>by rcases j with _|_|_|j <;> first|omega|exact cZ) (by simp) (fun a c ha hc=>by obtain rfl:c=0:=jO;rw [Nat.zero_add,Nat.mul_one,Nat.add_zero];exact cZ)) ?_;dsimp only [List.set_cons_zero,List.set_cons_succ,List.cons_append,List.nil_append,List.length_cons,List.length_nil,Nat.zero_add,Nat.reduceAdd])
      |(refine jE (freeze 4 rfl) ?_;refine jE (thawC 0 0 4 (nP ⟨([]++s.tags++[v.n]),eu (s.tags.length+2) s.rows,s.e⟩ 2 g) (fun i _=>kQ ([]++s.tags++[v.n]) i) rfl rfl cZ cZ (fun j hj h0=>by rcases j with _|_|_|j <;> first|omega|exact cZ) (by simp) (fun a c ha hc=>by obtain rfl:c=0:=jO;rw [Nat.zero_add,Nat.mul_one,Nat.add_zero];exact cZ)) ?_;dsimp only [List.set_cons_zero,List.set_cons_succ,List.cons_append,List.nil_append,List.length_cons,List.length_nil,Nat.zero_add,Nat.reduceAdd])
     refine py 10 (.rd 0 (.rd 1 (.rd 2 (.rd 3 (.rd 4 (.rd 5 (.rd 6 (.rd 7 (.rd 8 (.rd 9 .done)))))))))) ?_;refine jU 200001000090000050000701000080000005000070 ?_;refine bV (fb (i:=([]++s.tags++[v.n]).length) (hz:=by (simp only [List.length_append,List.length_cons,List.length_nil];omega))) ?_;refine BO ?_
     show cV _ _ _ _ _ _
     refine ar (bh 1 (dv ((eu (s.tags.length+2) s.rows).set ([]++s.tags++[v.n]).length [])) ?_ ?_)
     ·exact (fun j hj=>lU (ab.nilS _ _) hj)
     refine jU 4005 ?_
     rw [show cD v s=⟨([]++s.tags++[v.n]),(eu (s.tags.length+2) s.rows).set (s.tags.length+1) [],s.e⟩ by unfold cD;rw [jK,jP];unfold mE;rw [if_neg (by simp [bG] at h86 ⊢;omega),jK];rfl]
     exact bI (.inr rfl) n ⟨([]++s.tags++[v.n]),(eu (s.tags.length+2) s.rows).set (s.tags.length+1) [],s.e⟩ 2 (bN rfl) cZ rfl rfl rfl (by exact cZ) (by exact cO (by simp)) (by exact cZ) (by simp) (fun _ _=>by rw [hLl];exact cZ)
    ·refine yW (aU 1 1 nj fun p3=>?_)
     refine iL (av fS (l:=[]) rfl rfl rfl rfl (Nat.zero_le _) (fun j hj=>absurd hj (Nat.not_lt_zero j)) (dj rfl) rfl (fun j hj=>by simp only [Nat.div_one];exact cZ) Tryz.underlying137 lw uq nj Eh rfl (by (simp;omega)) (by (simp;omega)) (fun j hj=>rfl) rfl rfl (Nat.mul_one _) (fun p4=>?_))
     refine iL (av fS (l2:=[v.n]) rfl rfl rfl rfl (by exact Nat.le_of_eq (Nat.mul_one _)) (fun _ _=>cZ) (aY rfl (.inl rfl) jD) rfl (lz (.cons (cI (rfl)) .nil)) Tryz.underlying137 lw uq nj Eh rfl (by (simp;omega)) (by (simp;omega)) (bi rfl rfl) rfl rfl (Nat.mul_one _) (fun p5=>?_))
     refine jU 100000009000000 ?_
     refine iL (ax 1 ?_)
     refine jU 8700000 ?_
     first
      |(refine jE (freeze 3 rfl) ?_;refine jE (thawC 0 0 3 (nP ⟨([]++s.tags++[v.n]),eu (s.tags.length+2) s.rows,s.e⟩ 2 g) (fun i _=>kQ ([]++s.tags++[v.n]) i) rfl rfl cZ cZ (fun j hj h0=>by rcases j with _|_|_|j <;> first|omega|exact cZ) (by simp) (fun a c ha hc=>by obtain rfl:c=0:=jO;rw [Nat.zero_add,Nat.mul_one,Nat.add_zero];exact cZ)) ?_;dsimp only [List.set_cons_zero,List.set_cons_succ,List.cons_append,List.nil_append,List.length_cons,List.length_nil,Nat.zero_add,Nat.reduceAdd])
      |(refine jE (freeze 4 rfl) ?_;refine jE (thawC 0 0 4 (nP ⟨([]++s.tags++[v.n]),eu (s.tags.length+2) s.rows,s.e⟩ 2 g) (fun i _=>kQ ([]++s.tags++[v.n]) i) rfl rfl cZ cZ (fun j hj h0=>by rcases j with _|_|_|j <;> first|omega|exact cZ) (by simp) (fun a c ha hc=>by obtain rfl:c=0:=jO;rw [Nat.zero_add,Nat.mul_one,Nat.add_zero];exact cZ)) ?_;dsimp only [List.set_cons_zero,List.set_cons_succ,List.cons_append,List.nil_append,List.length_cons,List.length_nil,Nat.zero_add,Nat.reduceAdd])
     refine py 10 (.rd 0 (.rd 1 (.rd 2 (.rd 3 (.rd 4 (.rd 5 (.rd 6 (.rd 7 (.rd 8 (.rd 9 .done)))))))))) ?_;refine jU 200001000090000050000701000080000005000070 ?_;refine bV (fb (i:=([]++s.tags++[v.n]).length) (hz:=by (simp only [List.length_append,List.length_cons,List.length_nil];omega))) ?_;refine BO ?_
     show cV _ _ _ _ _ _
     refine ar (bh 1 (dv ((eu (s.tags.length+2) s.rows).set ([]++s.tags++[v.n]).length [])) ?_ ?_)
     ·exact (fun j hj=>lU (ab.nilS _ _) hj)
     refine jU 4005 ?_
     rw [show cD v s=⟨([]++s.tags++[v.n]),(eu (s.tags.length+2) s.rows).set (s.tags.length+1) [],s.e⟩ by unfold cD;rw [jK,jP];unfold mE;rw [if_neg (by simp [bG] at h86 ⊢;omega),jK];rfl]
     exact bI (.inr rfl) n ⟨([]++s.tags++[v.n]),(eu (s.tags.length+2) s.rows).set (s.tags.length+1) [],s.e⟩ 2 (bN rfl) cZ rfl rfl rfl (by exact cZ) (by exact cO (by simp)) (by exact cZ) (by simp) (fun _ _=>by rw [hLl];exact cZ)
   ·refine yW (aU 1 1 nj fun p2=>?_)
    refine yW (aU 0 1 nj fun p3=>?_)
    refine iL (av fS (l:=[]) rfl rfl rfl rfl (Nat.zero_le _) (fun j hj=>absurd hj (Nat.not_lt_zero j)) (dj rfl) rfl (fun j hj=>by simp only [Nat.div_one];exact cZ) Tryz.underlying137 lw uq nj Eh rfl (by (simp;omega)) (by (simp;omega)) (fun j hj=>rfl) rfl rfl (Nat.mul_one _) (fun p4=>?_))
    refine iL (av fS (l2:=[v.n]) rfl rfl rfl rfl (by exact Nat.le_of_eq (Nat.mul_one _)) (fun _ _=>cZ) (aY rfl (.inl rfl) jD) rfl (lz (.cons (cI (rfl)) .nil)) Tryz.underlying137 lw uq nj Eh rfl (by (simp;omega)) (by (simp;omega)) (bi rfl rfl) rfl rfl (Nat.mul_one _) (fun p5=>?_))
    refine jU 100000009000000 ?_
    refine iL (ax 1 ?_)
    refine jU 8700000 ?_
    first
     |(refine jE (freeze 3 rfl) ?_;refine jE (thawC 0 0 3 (nP ⟨([]++s.tags++[v.n]),eu (s.tags.length+2) s.rows,s.e⟩ 2 g) (fun i _=>kQ ([]++s.tags++[v.n]) i) rfl rfl cZ cZ (fun j hj h0=>by rcases j with _|_|_|j <;> first|omega|exact cZ) (by simp) (fun a c ha hc=>by obtain rfl:c=0:=jO;rw [Nat.zero_add,Nat.mul_one,Nat.add_zero];exact cZ)) ?_;dsimp only [List.set_cons_zero,List.set_cons_succ,List.cons_append,List.nil_append,List.length_cons,List.length_nil,Nat.zero_add,Nat.reduceAdd])
     |(refine jE (freeze 4 rfl) ?_;refine jE (thawC 0 0 4 (nP ⟨([]++s.tags++[v.n]),eu (s.tags.length+2) s.rows,s.e⟩ 2 g) (fun i _=>kQ ([]++s.tags++[v.n]) i) rfl rfl cZ cZ (fun j hj h0=>by rcases j with _|_|_|j <;> first|omega|exact cZ) (by simp) (fun a c ha hc=>by obtain rfl:c=0:=jO;rw [Nat.zero_add,Nat.mul_one,Nat.add_zero];exact cZ)) ?_;dsimp only [List.set_cons_zero,List.set_cons_succ,List.cons_append,List.nil_append,List.length_cons,List.length_nil,Nat.zero_add,Nat.reduceAdd])
    refine py 10 (.rd 0 (.rd 1 (.rd 2 (.rd 3 (.rd 4 (.rd 5 (.rd 6 (.rd 7 (.rd 8 (.rd 9 .done)))))))))) ?_;refine jU 200001000090000050000701000080000005000070 ?_;refine bV (fb (i:=([]++s.tags++[v.n]).length) (hz:=by (simp only [List.length_append,List.length_cons,List.length_nil];omega))) ?_;refine BO ?_
    show cV _ _ _ _ _ _
    refine ar (bh 1 (dv ((eu (s.tags.length+2) s.rows).set ([]++s.tags++[v.n]).length [])) ?_ ?_)
    ·exact (fun j hj=>lU (ab.nilS _ _) hj)
    refine jU 4005 ?_
    rw [show cD v s=⟨([]++s.tags++[v.n]),(eu (s.tags.length+2) s.rows).set (s.tags.length+1) [],s.e⟩ by unfold cD;rw [jK,jP];unfold mE;rw [if_neg (by simp [bG] at h86 ⊢;omega),jK];rfl]
    exact bI (.inr rfl) n ⟨([]++s.tags++[v.n]),(eu (s.tags.length+2) s.rows).set (s.tags.length+1) [],s.e⟩ 2 (bN rfl) cZ rfl rfl rfl (by exact cZ) (by exact cO (by simp)) (by exact cZ) (by simp) (fun _ _=>by rw [hLl];exact cZ)
 refine jU 5126 ?_;refine aq (fun h97=>?_) fun h97=>?_
 rotate_left
 ·refine jU 5126 ?_;refine aq (fun h114=>?_) fun h114=>?_
  ·refine jU 6050000006 ?_
   refine ak (ap (w8 v.b hvb) ?_)
   refine jU 521675119009001 ?_;refine aq (fun h116=>?_) fun h116=>?_
   ·refine jU 100040116 ?_
    refine ar (bh 1 (nP ⟨s.tags,s.rows,(af v.b).2⟩ 2 gr) ?_ ?_)
    ·exact (fun j hj=>by rcases j with _|_|_|j <;> exact cZ)
    refine jU 5000300070005 ?_
    rw [show cD v s=⟨s.tags,s.rows,(af v.b).2⟩ by unfold cD;rw [jK,jK,jK,jP,jP]]
    exact bI (.inl rfl) n ⟨s.tags,s.rows,(af v.b).2⟩ 2 (bN rfl) cZ rfl rfl rfl (by exact cZ) (by exact cO rfl) (by exact cZ) (Nat.le_refl _) (fun _ _=>by exact cZ)
   refine jU 1200810 ?_
   refine ak (aU 0 1 f7 fun p2=>?_)
   refine jU 605000000 ?_
   refine ar (bC (l:=[]) rfl rfl rfl (Nat.zero_le _) (fun j hj=>absurd hj (Nat.not_lt_zero j)) (dj rfl) rfl (fun j hj=>by simp only [Nat.div_one];exact cZ) Tryz.underlying22 iM qi f7 rB rfl (by (simp;omega)) (fun j hj=>rfl) rfl rfl (fun p3=>?_))
   refine bg (freeze 3 rfl) ?_;refine bg (kE 181 ([]++v.b) rfl rfl rfl rfl) ?_;refine bg (pp n s 0 2 rfl rfl rfl cZ (cO rfl) cZ (Nat.le_refl _) (fun _ _=>cZ)) ?_
   refine ar (aJ 0 (xa n s ([]++v.b) hs.ok) ?_)
   refine jU 4005 ?_
   rw [show cD v s=ki ([]++v.b) s by unfold cD;rw [jK,jK,jK,jP,jK];rfl]
   exact bQ (.inr rfl) _ [_] [0] jD rfl (bN rfl) ⟨rfl,rfl⟩
  refine cy ?_;refine jq (gq 5) ?_
  refine ak (su (hB jO jO jO) ?_)
  rintro _ _ ⟨⟨bb,rfl,hbb⟩,rfl⟩
  refine jU 5216751119009009001 ?_;refine aq (fun h123=>?_) fun h123=>?_
  ·refine jU 100040116 ?_
   refine ar (bh 1 (nP ⟨s.tags,s.rows,(aH v).2.2⟩ 2 gr) ?_ ?_)
   ·exact (fun j hj=>by rcases j with _|_|_|j <;> exact cZ)
   refine jU 5000300070005 ?_
   rw [show cD v s=⟨s.tags,s.rows,(aH v).2.2⟩ by unfold cD;rw [jK,jK,jK,jK,jP]]
   exact bI (.inl rfl) n ⟨s.tags,s.rows,(aH v).2.2⟩ 2 (bN rfl) cZ rfl rfl rfl (by exact cZ) (by exact cO rfl) (by exact cZ) (Nat.le_refl _) (fun _ _=>by exact cZ)
  refine jU 810 ?_
  have hb0:bb=(aH v).2.1:=hbb jO
  subst hb0
  refine jE (pp n s 0 2 rfl rfl rfl cZ (cO rfl) cZ (Nat.le_refl _) (fun _ _=>cZ)) ?_
  dsimp only [List.set_cons_zero,List.set_cons_succ,List.cons_append,List.nil_append,List.length_cons,List.length_nil,Nat.zero_add,Nat.reduceAdd]
  refine jU 111200 ?_
  refine ar (aJ 0 (rT n s (aH v).1 (aH v).2.1 hs.ok (JT v) (Gs hv)) ?_)
  refine jU 4005 ?_
  rw [show cD v s=lk (aH v).1 (aH v).2.1 s by unfold cD;rw [jK,jK,jK,jK,jK]]
  exact bQ (.inr rfl) _ [_] [0] jD rfl (bN rfl) ⟨rfl,rfl⟩
 refine jU 5216751350904016 ?_;refine aq (fun h99=>?_) fun h99=>?_
 ·refine jU 10004016 ?_
  refine ar (bh 1 (nP ⟨s.tags,s.rows,24⟩ 2 gr) ?_ ?_)
  ·exact (fun j hj=>by rcases j with _|_|_|j <;> exact cZ)
  refine jU 5000300070005 ?_
  rw [show cD v s=⟨s.tags,s.rows,24⟩ by unfold cD;rw [jK,jK,jP];unfold mG;rw [jP]]
  exact bI (.inl rfl) n ⟨s.tags,s.rows,24⟩ 2 (bN rfl) cZ rfl rfl rfl (by exact cZ) (by exact cO rfl) (by exact cZ) (Nat.le_refl _) (fun _ _=>by exact cZ)
 refine jU 810 ?_
 have hlt:=hs.lt jO
 have hmem:(s.tags.getD (s.tags.length-1) 0) ∈ s.tags:=de 0 jO
 have htg:=hs.tag _ hmem
 have hll:=LM (s.tags.getD (s.tags.length-1) 0) (s.rows.getD s.tags.length [])
 refine jU 9150904016751507001501004016 ?_;refine jq (fb (i:=(s.tags.length-1)) (hz:=by omega)) ?_;refine jU 5260 ?_;refine aq (fun h104=>?_) fun h104=>?_
 rotate_left
 ·refine jU 810 ?_
  first
   | refine jE (bF 5 (BN (kq (s.tags.getD (s.tags.length-1) 0) (s.rows.getD s.tags.length []))) (by unfold kq;rw [if_pos h104];exact cZ)) ?_
   | refine jE (bF 5 (BN (kq (s.tags.getD (s.tags.length-1) 0) (s.rows.getD s.tags.length []))) (by unfold kq;rw [if_neg h104];exact cZ)) ?_
  refine cy ?_
  refine ak (aU 0 1 f7 fun p2=>?_)
  refine jU 2051316751 ?_;refine aF (α:=Nat×Option Nat) [6,8,133,134,135,136,137,138,139,140] (fun (i,g)=>[(6,.os 3 g 0 (((kq (s.tags.getD (s.tags.length-1) 0) (s.rows.getD s.tags.length [])).take i).flatten).length 1),(133,.c (.int .i64 (i:Nat)))]) (fun (i,g)=>[(some n,.blk 3 (nP s 2 gr)),(p1,.frz 5 (fl [.c (.int .i64 v.kind),.c (.int .i64 v.n),.c (.bool v.is),bu v.b,au v.t])),(gr,.blk s.rows.length (dv s.rows)),(g,.blk (((kq (s.tags.getD (s.tags.length-1) 0) (s.rows.getD s.tags.length [])).take i).flatten).length (ft ((kq (s.tags.getD (s.tags.length-1) 0) (s.rows.getD s.tags.length [])).take i).flatten))]) (fun i=>i.1≤(kq (s.tags.getD (s.tags.length-1) 0) (s.rows.getD s.tags.length [])).length) (fun i=>(kq (s.tags.getD (s.tags.length-1) 0) (s.rows.getD s.tags.length [])).length-i.1) ((0,p2)) ?_ (fun _=>rfl) ?_ ?_ ?_
  ·exact Nat.zero_le _
  ·exact .cons (cO rfl) (.cons cZ .nil)
  ·exact .same (.same (.same (.blk rfl (fun j hj=>absurd hj (Nat.not_lt_zero j)) .nil)))
  ·rintro ⟨i,g⟩ (hi:i≤(kq (s.tags.getD (s.tags.length-1) 0) (s.rows.getD s.tags.length [])).length)
   refine jU 7526 ?_;refine aq (fun h108=>?_) fun h108=>?_
   ·refine jU 51607006207810 ?_
    have hf1:=iV (ls:=(kq (s.tags.getD (s.tags.length-1) 0) (s.rows.getD s.tags.length []))) (i:=i) jO
    have hf2:=oK (kq (s.tags.getD (s.tags.length-1) 0) (s.rows.getD s.tags.length [])) (i+1)
    have hf3:=gt ((kq (s.tags.getD (s.tags.length-1) 0) (s.rows.getD s.tags.length [])).take i)
    refine jU 11200 ?_
    refine ar (bC rfl rfl rfl (Nat.le_refl _) (fun _ _=>cZ) (dj rfl) rfl (fun j hj=>by simp only [Nat.div_one];exact cZ) Tryz.underlying22 iM qi f7 rB rfl jO (fun j hj=>rfl) rfl rfl (fun p3=>?_))
    refine jU 8519200840051 ?_
    refine aw ((i+1,p3)) ?_ ?_ (h5:=?_) (h7:=?_)
    ·show i+1≤(kq (s.tags.getD (s.tags.length-1) 0) (s.rows.getD s.tags.length [])).length;omega
    ·show (kq (s.tags.getD (s.tags.length-1) 0) (s.rows.getD s.tags.length [])).length-(i+1)<(kq (s.tags.getD (s.tags.length-1) 0) (s.rows.getD s.tags.length [])).length-i;omega
    ·simp only [ia (show i<(kq (s.tags.getD (s.tags.length-1) 0) (s.rows.getD s.tags.length [])).length by omega)]
     exact .cons (cO rfl) (.cons (cI jO) .nil)
    ·simp only [ia (show i<(kq (s.tags.getD (s.tags.length-1) 0) (s.rows.getD s.tags.length [])).length by omega)]
     exact .same (.same (.same (.same .nil)))
   refine jU 84000200020006000 ?_
   have hiE:i=(kq (s.tags.getD (s.tags.length-1) 0) (s.rows.getD s.tags.length [])).length:=by omega
   subst hiE
   dsimp only
   rw [List.take_length]
   refine jU 9150904016 ?_;refine jq (fb (i:=(s.tags.length-1)) (hz:=by omega)) ?_;refine jU 915090401165160 ?_;refine jq (ss (hl:=(dc _ _)) (hu:=(bY rfl (show _=(((s.tags.length-1):Nat):Int) by omega)))) ?_;refine jU 9040 ?_
   refine ar (bh 1 (nP ⟨s.tags.take (s.tags.length-1),s.rows,s.e⟩ 2 gr) ?_ ?_)
   ·exact (fun j hj=>by rcases j with _|_|_|j <;> first|exact ab.rs (by rw [List.length_take];omega) (fun i q hi hq=>ab.of_eq (by rw [Nat.zero_add];exact D4 hi))|exact cZ)
   refine jU 5 ?_;refine jE (freeze 3 rfl) ?_;refine jE (kE 6 ((kq (s.tags.getD (s.tags.length-1) 0) (s.rows.getD s.tags.length [])).flatten) rfl rfl rfl rfl) ?_;refine jE (pp n ⟨s.tags.take (s.tags.length-1),s.rows,s.e⟩ 0 2 rfl rfl rfl cZ (cO rfl) cZ (Nat.le_refl _) (fun _ _=>cZ)) ?_
   dsimp only [List.set_cons_zero,List.set_cons_succ,List.cons_append,List.nil_append,List.length_cons,List.length_nil,Nat.zero_add,Nat.reduceAdd]
   refine jU 111200 ?_
   refine ar (aJ 0 (rT n ⟨s.tags.take (s.tags.length-1),s.rows,s.e⟩ (s.tags.getD (s.tags.length-1) 0) ((kq (s.tags.getD (s.tags.length-1) 0) (s.rows.getD s.tags.length [])).flatten) (xj hs) htg (by rw [gt];omega)) ?_)
   refine jU 4005 ?_
   rw [show cD v s=lk (s.tags.getD (s.tags.length-1) 0) ((kq (s.tags.getD (s.tags.length-1) 0) (s.rows.getD s.tags.length [])).flatten) ⟨s.tags.take (s.tags.length-1),s.rows,s.e⟩ by unfold cD;rw [jK,jK,jP];unfold mG;rw [jK,AM]]
   exact bQ (.inr rfl) _ [_] [0] jD rfl (bN rfl) ⟨rfl,rfl⟩
 refine jU 1200 ?_
 refine ak (ap (yv (s.rows.getD s.tags.length []) hkk) ?_)
 refine jU 851 ?_
 first
  | refine jE (bF 5 (BN (kq (s.tags.getD (s.tags.length-1) 0) (s.rows.getD s.tags.length []))) (by unfold kq;rw [if_pos h104];exact cZ)) ?_
  | refine jE (bF 5 (BN (kq (s.tags.getD (s.tags.length-1) 0) (s.rows.getD s.tags.length []))) (by unfold kq;rw [if_neg h104];exact cZ)) ?_
 refine cy ?_
 refine ak (aU 0 1 f7 fun p2=>?_)
 refine jU 2051316751 ?_;refine aF (α:=Nat×Option Nat) [6,8,133,134,135,136,137,138,139,140] (fun (i,g)=>[(6,.os 3 g 0 (((kq (s.tags.getD (s.tags.length-1) 0) (s.rows.getD s.tags.length [])).take i).flatten).length 1),(133,.c (.int .i64 (i:Nat)))]) (fun (i,g)=>[(some n,.blk 3 (nP s 2 gr)),(p1,.frz 5 (fl [.c (.int .i64 v.kind),.c (.int .i64 v.n),.c (.bool v.is),bu v.b,au v.t])),(gr,.blk s.rows.length (dv s.rows)),(g,.blk (((kq (s.tags.getD (s.tags.length-1) 0) (s.rows.getD s.tags.length [])).take i).flatten).length (ft ((kq (s.tags.getD (s.tags.length-1) 0) (s.rows.getD s.tags.length [])).take i).flatten))]) (fun i=>i.1≤(kq (s.tags.getD (s.tags.length-1) 0) (s.rows.getD s.tags.length [])).length) (fun i=>(kq (s.tags.getD (s.tags.length-1) 0) (s.rows.getD s.tags.length [])).length-i.1) ((0,p2)) ?_ (fun _=>rfl) ?_ ?_ ?_
 ·exact Nat.zero_le _
 ·exact .cons (cO rfl) (.cons cZ .nil)
 ·exact .same (.same (.same (.blk rfl (fun j hj=>absurd hj (Nat.not_lt_zero j)) .nil)))
 ·rintro ⟨i,g⟩ (hi:i≤(kq (s.tags.getD (s.tags.length-1) 0) (s.rows.getD s.tags.length [])).length)
  refine jU 7526 ?_;refine aq (fun h108=>?_) fun h108=>?_
  ·refine jU 51607006207810 ?_
   have hf1:=iV (ls:=(kq (s.tags.getD (s.tags.length-1) 0) (s.rows.getD s.tags.length []))) (i:=i) jO
   have hf2:=oK (kq (s.tags.getD (s.tags.length-1) 0) (s.rows.getD s.tags.length [])) (i+1)
   have hf3:=gt ((kq (s.tags.getD (s.tags.length-1) 0) (s.rows.getD s.tags.length [])).take i)
   refine jU 11200 ?_
   refine ar (bC rfl rfl rfl (Nat.le_refl _) (fun _ _=>cZ) (dj rfl) rfl (fun j hj=>by simp only [Nat.div_one];exact cZ) Tryz.underlying22 iM qi f7 rB rfl jO (fun j hj=>rfl) rfl rfl (fun p3=>?_))
   refine jU 8519200840051 ?_
   refine aw ((i+1,p3)) ?_ ?_ (h5:=?_) (h7:=?_)
   ·show i+1≤(kq (s.tags.getD (s.tags.length-1) 0) (s.rows.getD s.tags.length [])).length;omega
   ·show (kq (s.tags.getD (s.tags.length-1) 0) (s.rows.getD s.tags.length [])).length-(i+1)<(kq (s.tags.getD (s.tags.length-1) 0) (s.rows.getD s.tags.length [])).length-i;omega
   ·simp only [ia (show i<(kq (s.tags.getD (s.tags.length-1) 0) (s.rows.getD s.tags.length [])).length by omega)]
    exact .cons (cO rfl) (.cons (cI jO) .nil)
   ·simp only [ia (show i<(kq (s.tags.getD (s.tags.length-1) 0) (s.rows.getD s.tags.length [])).length by omega)]
    exact .same (.same (.same (.same .nil)))
  refine jU 84000200020006000 ?_
  have hiE:i=(kq (s.tags.getD (s.tags.length-1) 0) (s.rows.getD s.tags.length [])).length:=by omega
  subst hiE
  dsimp only
  rw [List.take_length]
  refine jU 9150904016 ?_;refine jq (fb (i:=(s.tags.length-1)) (hz:=by omega)) ?_;refine jU 915090401165160 ?_;refine jq (ss (hl:=(dc _ _)) (hu:=(bY rfl (show _=(((s.tags.length-1):Nat):Int) by omega)))) ?_;refine jU 9040 ?_
  refine ar (bh 1 (nP ⟨s.tags.take (s.tags.length-1),s.rows,s.e⟩ 2 gr) ?_ ?_)
  ·exact (fun j hj=>by rcases j with _|_|_|j <;> first|exact ab.rs (by rw [List.length_take];omega) (fun i q hi hq=>ab.of_eq (by rw [Nat.zero_add];exact D4 hi))|exact cZ)
  refine jU 5 ?_;refine jE (freeze 3 rfl) ?_;refine jE (kE 6 ((kq (s.tags.getD (s.tags.length-1) 0) (s.rows.getD s.tags.length [])).flatten) rfl rfl rfl rfl) ?_;refine jE (pp n ⟨s.tags.take (s.tags.length-1),s.rows,s.e⟩ 0 2 rfl rfl rfl cZ (cO rfl) cZ (Nat.le_refl _) (fun _ _=>cZ)) ?_
  dsimp only [List.set_cons_zero,List.set_cons_succ,List.cons_append,List.nil_append,List.length_cons,List.length_nil,Nat.zero_add,Nat.reduceAdd]
  refine jU 111200 ?_
  refine ar (aJ 0 (rT n ⟨s.tags.take (s.tags.length-1),s.rows,s.e⟩ (s.tags.getD (s.tags.length-1) 0) ((kq (s.tags.getD (s.tags.length-1) 0) (s.rows.getD s.tags.length [])).flatten) (xj hs) htg (by rw [gt];omega)) ?_)
  refine jU 4005 ?_
  rw [show cD v s=lk (s.tags.getD (s.tags.length-1) 0) ((kq (s.tags.getD (s.tags.length-1) 0) (s.rows.getD s.tags.length [])).flatten) ⟨s.tags.take (s.tags.length-1),s.rows,s.e⟩ by unfold cD;rw [jK,jK,jP];unfold mG;rw [jK,AM]]
  exact bQ (.inr rfl) _ [_] [0] jD rfl (bN rfl) ⟨rfl,rfl⟩
end
section
open Go.RowKit Cal
structure jh (v:VV):Prop where
 n:-9223372036854775808≤v.n∧v.n≤9223372036854775807
 b:v.b.length≤300
 t:v.t.length≤300
theorem jh.ok {v:VV} (h:jh v):OC v:=⟨h.n,by have:=h.b;omega,by have:=h.t;omega⟩
def zv (fr:List (Int×List (List UInt8))):Nat:=(fr.map fun x=>cm x.2+6).sum
def wn (s:W8):Nat:=s.d.length+zv s.fr
theorem oq (x:Int×List (List UInt8)) (fr:List (Int×List (List UInt8))):zv (x::fr)=cm x.2+6+zv fr:=by simp [zv]
theorem EB (l:List (List UInt8)) (b:List UInt8):cm (l++[b])=cm l+b.length:=by rw [qr];simp [cm]
theorem jC (tag:Int) (b:List UInt8):(dl tag b).length≤b.length+6:=by
 unfold dl
 have:=tU b.length
 simp only [List.length_cons,List.length_append]
 omega
theorem GE (b:List UInt8) (s:W8):wn (cG b s)=wn s+b.length:=by
 obtain ⟨fr,d,k⟩:=s
 cases fr with
 | nil=>simp [wn,cG,zv]
 | cons x fr =>
  show d.length+zv ((x.1,x.2++[b])::fr)=d.length+zv (x::fr)+_
  rw [oq,oq]
  show d.length+(cm (x.2++[b])+6+zv fr)=_
  rw [EB]
  omega
theorem yc (e:Nat) (s:W8):wn (cj e s)=wn s:=by unfold cj;split <;> rfl
theorem BR (tag:Int) (b:List UInt8) (e:Nat) (s:W8):wn (eZ tag b e s)≤wn s+b.length+6:=by
 unfold eZ
 split
 ·rw [yc];omega
 ·split
  ·show s.d.length+zv s.fr≤_;unfold wn;omega
  ·rw [GE];have:=jC tag b;omega
theorem tA {v:VV} (h:jh v):(aH v).2.1.length≤300:=by
 have h1:=h.b
 have h2:=h.t
 have h3:=(n8 v.n h.n.1 h.n.2).2
 have h4:=tP v.t
 unfold aH
 split
 ·show (fa v.n).length≤_;omega
 ·split
  ·show (fa v.n).length≤_;omega
  ·split
   ·show [if v.is then (255:UInt8) else 0].length≤_;simp
   ·split
    ·exact h1
    ·split
     ·show (if aN v.t v.n=0 then v.t else []).length≤_;split <;> first|omega|simp
     ·split
      ·show (gT v.t).length≤_;omega
      ·split
       ·show (if ol v.n then cW (kA v.n) else []).length≤_
        split
        ·exact Nat.le_trans (Nat.le_of_eq (show (cW (kA v.n)).length=15 from rfl)) jD
        ·simp
       ·show (x9 v.n).length≤_
        unfold x9
        split
        ·simp
        ·rw [xI jO]
         have:=(JX (m:=v.n.toNat) jO).2
         omega
theorem OW {v:VV} (h:jh v) (s:W8):wn (jj v s)≤wn s+400:=by
 have hb:=h.b
 unfold jj
 split
 ·unfold dw
  split
  ·omega
  ·split
   ·show s.d.length+zv s.fr≤_;unfold wn;omega
   ·split
    ·show s.d.length+zv s.fr≤_;unfold wn;omega
    ·show s.d.length+zv _≤_
     rw [oq]
     unfold wn
     simp [cm];omega
 ·split
  ·unfold db
   split
   ·omega
   ·obtain ⟨fr,d,k⟩:=s
    cases fr with
    | nil=>show d.length+zv []≤d.length+zv []+_;omega
    | cons x fr =>
     have h1:=BR x.1 (k8 x) 0 ⟨fr,d,k⟩
     rw [x8] at h1
     refine Nat.le_trans h1 ?_
     show d.length+zv fr+_+_≤d.length+zv (x::fr)+_
     rw [oq]
     omega
  ·split
   ·unfold Fl
    split
    ·rw [GE];omega
    ·rw [yc];omega
   ·have h1:=BR (aH v).1 (aH v).2.1 (aH v).2.2 s
    have h2:=tA h
    omega
theorem DM {m:Nat} {r:List (List (List UInt8))} {x:List (List UInt8)} (h:x ∈ eu m r):x ∈ r∨x=[]:=by
 unfold eu at h
 rcases List.mem_append.1 h with h|h
 ·exact .inl h
 ·exact .inr (List.eq_of_mem_replicate h)
theorem Df (r:List (List (List UInt8))) (j:Nat):r.getD j [] ∈ r∨r.getD j []=[]:=by
 rw [List.getD_eq_getElem?_getD]
 cases e:r[j]? with
 | none=>exact .inr rfl
 | some x=>exact .inl (List.mem_of_getElem? e)
def El (r r':R8):Prop:=(r'.rows.length≤max r.rows.length (r'.tags.length+1))∧∀ x ∈ r'.rows,x ∈ r.rows∨x=[]∨∃ y b,(y ∈ r.rows∨y=[])∧x=y++[b]∧x=r'.rows.getD r'.tags.length []
theorem gU {r r':R8} (h:r'.rows=r.rows):El r r':=⟨by rw [h];omega,fun x hx=>.inl (h ▸ hx)⟩
theorem xE (b:List UInt8) (r:R8):El r (ki b r):=by
 have hp:r.tags.length<(eu (r.tags.length+1) r.rows).length:=by rw [mJ];omega
 refine ⟨?_,fun x hx=>?_⟩
 ·show (List.set _ _ _).length≤max _ (r.tags.length+1)
  rw [List.length_set,mJ]
  omega
 ·rcases List.mem_or_eq_of_mem_set hx with h|h
  ·rcases DM h with h|h
   ·exact .inl h
   ·exact .inr (.inl h)
  ·refine .inr (.inr ⟨_,b,?_,h,?_⟩)
   ·rw [fW];exact Df _ _
   ·show x=List.getD (List.set _ _ _) r.tags.length []
    rw [oP _ _ _ _ hp,if_pos rfl]
    exact h
theorem xD (t:Int) (b:List UInt8) (r:R8):El r (lk t b r):=by
 unfold lk
 split
 ·exact gU rfl
 ·exact xE _ r
theorem A8 (v:VV) (r:R8):El r (cD v r):=by
 unfold cD
 split
 ·exact gU rfl
 ·split
  ·unfold mE
   split
   ·exact gU rfl
   ·split
    ·exact gU rfl
    ·refine ⟨?_,fun x hx=>?_⟩
     ·show (List.set _ _ _).length≤max _ ((r.tags++[v.n]).length+1)
      rw [List.length_set,mJ,List.length_append,List.length_singleton]
      omega
     ·rcases List.mem_or_eq_of_mem_set hx with h|h
      ·rcases DM h with h|h
       ·exact .inl h
       ·exact .inr (.inl h)
      ·exact .inr (.inl h)
  ·split
   ·unfold mG
    split
    ·exact gU rfl
    ·exact xD _ _ ⟨_,r.rows,r.e⟩
   ·split
    ·split
     ·exact gU rfl
     ·exact xE _ r
    ·split
     ·exact gU rfl
     ·exact xD _ _ r
theorem D9 {fr:List (Int×List (List UInt8))} {x:Int×List (List UInt8)} (h:x ∈ fr):cm x.2≤zv fr:=by
 induction fr with
 | nil=>cases h
 | cons y fr ih =>
  rw [oq]
  rcases List.mem_cons.1 h with rfl|h
  ·omega
  ·have:=ih h;omega
theorem wc {r:R8} {s:W8} (h:lF r s):cm (r.rows.getD r.tags.length [])≤wn s:=by
 have hl:r.tags.length=s.fr.length:=by rw [h.tags];simp
 obtain ⟨fr,d,k⟩:=s
 cases fr with
 | nil =>
  rw [hl]
  show cm (r.rows.getD 0 [])≤_
  rw [← gt,h.row0]
  unfold wn
  omega
 | cons x fr =>
  have hr:=h.row fr.length (by simp)
  rw [hl]
  show cm (r.rows.getD (fr.length+1) [])≤_
  rw [hr]
  have e:((x::fr).map Prod.snd).reverse.getD fr.length []=x.2:=by simp [List.getD_eq_getElem?_getD]
  show cm (((x::fr).map Prod.snd).reverse.getD fr.length [])≤_
  rw [e]
  have:=D9 (fr:=x::fr) (x:=x) List.mem_cons_self
  unfold wn
  show _≤d.length+zv (x::fr)
  omega
structure ie (i:Nat) (r:R8) (s:W8):Prop where
 same:lF r s
 w:wn s≤400 * i
 rows:∀ x ∈ r.rows,x.length≤i∧cm x≤400 * i
 n:r.rows.length≤18
theorem IQ:ie 0 ⟨[],[],0⟩ ⟨[],[],0⟩:=⟨EG,by decide,fun _ h=>(by cases h),by decide⟩
theorem iz {i:Nat} {r:R8} {s:W8} (h:ie i r s) {v:VV} (hv:jh v):ie (i+1) (cD v r) (jj v s):=by
 have hs:=Dz h.same v
 have hw:=OW hv s
 have hg:=A8 v r
 have h0:=h.w
 have hl:(cD v r).tags.length≤16:=by rw [hs.tags];simpa using hs.lim
 refine ⟨hs,by omega,fun x hx=>?_,?_⟩
 ·rcases hg.2 x hx with h1|h1|⟨y,b,h1,h2,h3⟩
  ·have:=h.rows x h1;omega
  ·subst h1;simp [cm]
  ·have ha:=wc hs
   rw [← h3] at ha
   refine ⟨?_,by omega⟩
   rw [h2,List.length_append,List.length_singleton]
   rcases h1 with h1|h1
   ·have:=h.rows y h1;omega
   ·subst h1;simp
 ·have:=hg.1
  have:=h.n
  omega
theorem A6 {i:Nat} {r:R8} {s:W8} (h:ie i r s) (e:Nat):ie i ⟨r.tags,r.rows,if r.e=0 then e else r.e⟩ (cj e s):=by
 have hs:=h.same
 refine ⟨?_,by rw [yc];exact h.w,h.rows,h.n⟩
 unfold cj
 rw [hs.e]
 split
 ·exact ⟨hs.tags,rfl,hs.row0,hs.row,hs.len,hs.known,hs.lim⟩
 ·exact ⟨hs.tags,rfl,hs.row0,hs.row,hs.len,hs.known,hs.lim⟩
theorem fX {i:Nat} {r:R8} {s:W8} (h:ie i r s) (hi:i≤1000):wi s:=by
 have hw:=h.w
 refine ⟨h.same.lim,fun x hx=>?_,by unfold wn at hw;omega⟩
 obtain ⟨j,hj⟩:=List.mem_iff_getElem?.1 hx
 have hjl:=(List.getElem?_eq_some_iff.1 hj).1
 have hr:=h.same.row (s.fr.length-1-j) jO
 have e:(s.fr.map Prod.snd).reverse.getD (s.fr.length-1-j) []=x.2:=by
  rw [List.getD_eq_getElem?_getD,List.getElem?_reverse (by simp;omega)]
  simp only [List.length_map,List.getElem?_map]
  rw [show s.fr.length-1-(s.fr.length-1-j)=j by omega,hj]
  rfl
 rw [e] at hr
 have hs:=D9 hx
 unfold wn at hw
 refine ⟨?_,by omega⟩
 rcases Df r.rows (s.fr.length-1-j+1) with h1|h1
 ·have:=(h.rows _ h1).1
  rw [hr] at this
  omega
 ·rw [hr] at h1
  rw [h1];simp
theorem gN {i:Nat} {r:R8} {s:W8} (h:ie i r s) (hi:i≤1000):Gy r:=by
 have hl:r.tags.length=s.fr.length:=by rw [h.same.tags];simp
 have hlim:=h.same.lim
 have hn:=h.n
 refine ⟨⟨by omega,by omega,fun x hx=>by have:=h.rows x hx;omega⟩,fun j=>?_,fun x hx=>?_,h.same.len⟩
 ·rcases Df r.rows j with h1|h1
  ·have:=h.rows _ h1;omega
  ·rw [h1];simp [cm]
 ·rw [h.same.tags] at hx
  obtain ⟨y,hy,rfl⟩:=List.mem_map.1 (List.mem_reverse.1 hx)
  exact od (mQ (h.same.known y hy))
end
section
def Ar (l:List (List UInt8)) (k:Nat) (z:Nat×Option Nat):List (Option Nat×bp):=[(some z.1,.blk 2 (fl [.os 1 z.2 0 l.length 1,.err k])),(z.2,.blk l.length (lM l))]
def dA (n:Nat) (l:List (List UInt8)) (k:Nat):Option Nat×bp:=lZ n (fun z:Nat×Option Nat=>z.1) (Ar l k)
section
variable {P:Program} {G:Gh} {s:AS} {c:Code} {R:Exit→AS→Prop} {n k:Nat} {l:List (List UInt8)}
theorem Bx (i:Nat) (hi:s.H[i]?=some (dA n l k)) (h:∀ gl,bj P G c ⟨s.env,s.b,s.H.set i (some n,.blk 2 (fl [.os s.H.length gl 0 l.length 1,.err k]))++[(gl,.blk l.length (lM l))]⟩ R):bj P G c s R:=by
 have hlt:=(List.getElem?_eq_some_iff.1 hi).1
 refine oz i hi fun z hz=>?_
 obtain ⟨n',gl⟩:=z
 obtain rfl:n'=n:=hz
 refine jE (nl i 2 (fl [.os s.H.length gl 0 l.length 1,.err k]) (n:=2) (g:=some n') (f:=fl [.os 1 gl 0 l.length 1,.err k]) ?_ (Nat.le_refl _) fun j hj=>?_) ?_
 ·show (s.H.set i _++_)[i]?=_
  rw [List.getElem?_append_left (by simpa using hlt)]
  simp [hlt]
 ·rcases j with _|_|j
  ·exact cO rfl
  ·exact cZ
  ·omega
 ·have e:(s.H.set i (some n',bp.blk 2 (fl [.os 1 gl 0 l.length 1,.err k]))++[(gl,bp.blk l.length (lM l))]).set i (some n',.blk 2 (fl [.os s.H.length gl 0 l.length 1,.err k]))=s.H.set i (some n',.blk 2 (fl [.os s.H.length gl 0 l.length 1,.err k]))++[(gl,.blk l.length (lM l))]:=by
   rw [List.set_append_left _ _ (by simpa using hlt),List.set_set]
  have:=h gl
  rw [← e] at this
  exact this
theorem Mw (n k:Nat) (l:List (List UInt8)) (i j:Nat) {gl:Option Nat} {N:Nat} {f F:Nat→CV} (hi:s.H[i]?=some (some n,.blk 2 f)) (hj:s.H[j]?=some (gl,.blk N F)) (hij:Nat.beq i j=false) (h0:ab (f 0) (.os 1 gl 0 l.length 1)) (h1:ab (f 1) (.err k)) (hN:l.length≤N) (hF:∀ a,a<l.length→ab (F a) (lM l a)) :
  cU G s ⟨s.env,s.b,(s.H.set i (dA n l k)).set j (none,.dead)⟩:=by
 have hij:=Nat.ne_of_beq_eq_false hij
 have hil:=(List.getElem?_eq_some_iff.1 hi).1
 have hjl:=(List.getElem?_eq_some_iff.1 hj).1
 refine cU.hrel fun h=>?_
 have h2:=h.weak (F:=fl [.os 1 gl 0 l.length 1,.err k]) hi (Nat.le_refl _) fun a ha=>by
  rcases a with _|_|a
  ·exact h0
  ·exact h1
  ·omega
 have h3:=h2.weak (i:=j) (F:=lM l) (by rw [List.getElem?_set_ne hij];exact hj) hN hF
 have h4:=h3.closeN (gd:=fun z:Nat×Option Nat=>z.1) (E:=Ar l k) (n,gl) i [j] (by simp [hij]) (by simp [hil,hjl]) (by
  simp only [gZ,List.map_cons,List.map_nil,List.getD_eq_getElem?_getD]
  rw [List.getElem?_set_ne (Ne.symm hij)]
  simp [hil,hjl,Ar])
 have e:qR (((s.H.set i (some n,bp.blk 2 (fl [CV.os 1 gl 0 l.length 1,CV.err k]))).set j (gl,bp.blk l.length (lM l))).set i (lZ n (fun z:Nat×Option Nat=>z.1) (Ar l k))) [j]=(s.H.set i (dA n l k)).set j (none,.dead):=by
  show ((((s.H.set i _).set j _).set i _).set j _)=_
  rw [List.set_comm _ _ (Ne.symm hij),List.set_set,List.set_set]
  rfl
 rw [← e]
 exact h4
theorem bK {env:List (Nat×CV)} {b0:Nat→CV} {H:List (Option Nat×bp)} (i:Nat) (hi:H[i]?=some (dA n l k)) (h:∀ gl,bj P G c ⟨env,b0,H.set i (some n,.blk 2 (fl [.os H.length gl 0 l.length 1,.err k]))++[(gl,.blk l.length (lM l))]⟩ R):bj P G c ⟨env,b0,H⟩ R:=Bx i hi h
theorem cS {env:List (Nat×CV)} {b0:Nat→CV} {H:List (Option Nat×bp)} (n k:Nat) (l:List (List UInt8)) (i j:Nat) {gl:Option Nat} {N:Nat} {f F:Nat→CV} (hi:H[i]?=some (some n,.blk 2 f)) (hj:H[j]?=some (gl,.blk N F)) (hij:Nat.beq i j=false) (h0:ab (f 0) (.os 1 gl 0 l.length 1)) (h1:ab (f 1) (.err k)) (hN:l.length≤N) (hF:∀ a,a<l.length→ab (F a) (lM l a)) :
  cU G ⟨env,b0,H⟩ ⟨env,b0,(H.set i (dA n l k)).set j (none,.dead)⟩:=Mw n k l i j hi hj hij h0 h1 hN hF
end
def aD (l:List (List UInt8)):List UInt8:=l.getD (l.length-1) []
def cn (l:List (List UInt8)) (k:Nat):Bool:=decide (k=0) && decide (0<(aD l).length)
theorem u9 {gs:List Nat} (n:Nat) (l:List (List UInt8)) (k:Nat) (hl:0<l.length∧l.length≤1000000):AC gs Tryz.prog 137 [dA n l k] [.op 0 (some n) 0] (fun r H'=>r=bu (aD l)∧H'=[dA n l k]):=by
 refine ai 15 Tryz.func137 fun al w0 F0 St0=>?_;refine bK 0 rfl fun gl=>?_;refine jU 7516 ?_
 skip
 refine ff (.rd 0 (.rd 1 (.rd 2 (.rd 3 (.rd 4 (.rd 5 (.rd 6 (.rd 7 (.rd 8 (.rd 9 (.rd 10 (.rd 11 (.rd 12 .done))))))))))))) ?_;refine jU 3000020000100009000005000070100009000005000070 ?_;refine bV (fb (i:=(l.length-1)) (hz:=by omega)) ?_;refine jU 70008807010000 ?_
 exact dE (gd:=fun z:Nat×Option Nat=>z.1) (E:=Ar l k) (.inl rfl) _ (n,gl) [0,1] jD rfl (aA rfl (aP rfl)) ⟨rfl,rfl⟩
theorem xN {gs:List Nat} (n:Nat) (l:List (List UInt8)) (k e:Nat):AC gs Tryz.prog 187 [dA n l k] [.op 0 (some n) 0,.err e] (fun r H'=>r=.c (.tuple #[])∧H'=[dA n l (if k=0 then e else k)]):=by
 refine ai 13 Tryz.func187 fun al w0 F0 St0=>?_;refine bK 0 rfl fun gl=>?_;refine jU 5500000501004016 ?_;refine aq (fun h161=>?_) fun h161=>?_
 rotate_left
 ·refine jU 10 ?_
  rw [jK]
  exact dE (gd:=fun z:Nat×Option Nat=>z.1) (E:=Ar l k) (.inr rfl) _ (n,gl) [0,1] jD rfl (bN rfl) ⟨rfl,rfl⟩
 refine jU 1004011200 ?_
 refine ar (bh 1 (fl [.os 1 gl 0 l.length 1,.err e]) ?_ ?_)
 ·exact (fun j hj=>by rcases j with _|_|j <;> exact cZ)
 refine jU 5 ?_
 rw [jP]
 exact dE (gd:=fun z:Nat×Option Nat=>z.1) (E:=Ar l e) (.inr rfl) _ (n,gl) [0,1] jD rfl (bN rfl) ⟨rfl,rfl⟩
theorem Jn {gs:List Nat} (n:Nat) (l:List (List UInt8)) (k:Nat):AC gs Tryz.prog 185 [dA n l k] [.op 0 (some n) 0] (fun r H'=>r=.err k∧H'=[dA n l k]):=by
 refine ai 7 Tryz.func185 fun al w0 F0 St0=>?_;refine bK 0 rfl fun gl=>?_;refine jU 516 ?_
 skip
 refine jU 700051501004016 ?_
 exact dE (gd:=fun z:Nat×Option Nat=>z.1) (E:=Ar l k) (.inl rfl) _ (n,gl) [0,1] jD rfl (aA rfl (aP rfl)) ⟨rfl,rfl⟩
theorem kM {l:List (List UInt8)} {k:Nat} (h:cn l k=true):k=0∧0<(aD l).length:=by simpa [cn] using h
theorem LG {gs:List Nat} (n:Nat) (l:List (List UInt8)) (k:Nat) (hl:0<l.length∧l.length≤1000000):AC gs Tryz.prog 193 [dA n l k] [.op 0 (some n) 0] (fun r H'=>r=.c (.bool (cn l k))∧H'=[dA n l k]):=by
 refine ai 14 Tryz.func193 fun al w0 F0 St0=>?_;refine bK 0 rfl fun gl=>?_;refine jU 516 ?_
 skip
 refine jU 501004016 ?_;refine bg (cS n k l 0 1 rfl rfl rfl cZ cZ (Nat.le_refl _) (fun _ _=>cZ)) ?_;refine jU 1500000 ?_;refine ay 8 (fun g173=>?_) fun g173=>?_
 ·refine jU 1 ?_
  refine ar (aJ 0 (u9 n l k hl) ?_)
  refine jU 70005110000000023 ?_
  exact ba (.inl rfl) rfl (aA rfl (aP rfl)) (cB (by unfold cn;(simp [g173];done)))
 refine jU 7000515004444 ?_
 exact ba (.inl rfl) rfl (aA rfl (aP rfl)) (cB (by unfold cn;(simp [g173];done)))
end
section
variable {gs:List Nat} [fZ gs]

structure NR where
 l:List (List UInt8)
 k:Nat
 tag:Nat
 body:List UInt8
 raw:List UInt8
 is:Bool
def ac (tag:Int) (l:List (List UInt8)) (k:Nat):NR :=
 if k≠0 then ⟨l,k,0,[],[],false⟩ else
 if (ah (aD l)).e≠0 then ⟨l,(ah (aD l)).e,0,[],[],false⟩ else
 if tag≠0∧((ah (aD l)).tag:Int)≠tag then ⟨l,5,0,[],[],false⟩ else
 ⟨l.set (l.length-1) (ah (aD l)).rest,0,(ah (aD l)).tag,(ah (aD l)).body,(aD l).take ((aD l).length-(ah (aD l)).rest.length),true⟩
theorem IB {l:List (List UInt8)} {i:Nat} {x:List UInt8} {j:Nat} (hj:j<l.length):ab (mo (lM l) i [bu x] j) (lM (l.set i x) j):=by
 refine ab.of_eq ?_
 rw [kD]
 simp only [lM,List.length_singleton,List.getD_eq_getElem?_getD,List.getElem?_set]
 by_cases h:i=j
 ·subst h
  rw [jP,if_pos rfl,if_pos hj,Nat.sub_self]
  rfl
 ·rw [jK,if_neg h]
theorem kL (n:Nat) (l:List (List UInt8)) (k:Nat) (tag:Int) (hl:0<l.length∧l.length≤1000000) (hb:(aD l).length≤10000000):AC gs Tryz.prog 138 [dA n l k] [.op 0 (some n) 0,.c (.int .i64 tag)]
  (fun r H'=>r=.tup 3 (fl [P1 (ac tag l k).tag (ac tag l k).body,bu (ac tag l k).raw,.c (.bool (ac tag l k).is)])∧H'=[dA n (ac tag l k).l (ac tag l k).k]):=by
 have hnb:=ew (aD l)
 refine ai 67 Tryz.func138 fun al w0 F0 St0=>?_;refine cy ?_
 refine ak (bD (n:=2) gC rfl fun p1=>?_)
 refine jU 7511 ?_;refine bK 0 rfl fun gl=>?_;refine jU 5500000501004016 ?_;refine aq (fun h185=>?_) fun h185=>?_
 ·refine jE (cS n k l 0 2 rfl rfl rfl (cO rfl) cZ (Nat.le_refl _) (fun _ _=>cZ)) ?_
  dsimp only [List.set_cons_zero,List.set_cons_succ,List.cons_append,List.nil_append,List.length_cons,List.length_nil,Nat.zero_add,Nat.reduceAdd]
  refine cy ?_;refine jq (ae (n:=2) rfl gC pD rfl rfl) ?_
  refine ar (ax 2 ?_)
  refine jU 30007000511 ?_
  have hN:ac tag l k=⟨l,k,0,[],[],false⟩:=by unfold ac;rw [jP]
  rw [hN]
  refine ba (.inl rfl) rfl (er rfl (bz 2) aG aG) ?_
  exact ab.tup3 (ab.agg2 cZ cN) cN cZ
 refine jU 810 ?_
 obtain rfl:k=0:=by omega
 refine jE (cS n 0 l 0 2 rfl rfl rfl (cO rfl) cZ (Nat.le_refl _) (fun _ _=>cZ)) ?_
 dsimp only [List.set_cons_zero,List.set_cons_succ,List.cons_append,List.nil_append,List.length_cons,List.length_nil,Nat.zero_add,Nat.reduceAdd]
 refine jU 16 ?_
 refine ar (aJ 0 (u9 n l 0 hl) ?_)
 refine ak (ap (yK (aD l) hb) ?_)
 refine jU 9009009001 ?_
 refine ak (bD (n:=2) gC rfl fun p3=>?_)
 refine ar (ax 2 ?_)
 refine jU 5150000016207511 ?_;refine aq (fun h190=>?_) fun h190=>?_
 ·refine bK 0 rfl fun gl2=>?_;refine jU 1004011200 ?_
  refine ar (bh 1 (fl [.os 4 gl2 0 l.length 1,.err (ah (aD l)).e]) ?_ ?_)
  ·exact (fun j hj=>by rcases j with _|_|j <;> exact cZ)
  refine jU 84005 ?_
  first
   | refine jE (cS n (ah (aD l)).e l 0 4 rfl rfl rfl (cO rfl) cZ (Nat.le_refl _) (fun _ _=>cZ)) ?_
   | refine jE (cS n 5 l 0 4 rfl rfl rfl (cO rfl) cZ (Nat.le_refl _) (fun _ _=>cZ)) ?_
  refine cy ?_;refine jq (ae (n:=2) rfl gC pD rfl rfl) ?_
  refine ar (ax 2 ?_)
  refine jU 7000511 ?_
  first
   |(have hN:ac tag l 0=⟨l,(ah (aD l)).e,0,[],[],false⟩:=by unfold ac;rw [jK,jP])
   |(have hN:ac tag l 0=⟨l,5,0,[],[],false⟩:=by unfold ac;rw [jK,jK,jP])
  rw [hN]
  refine ba (.inl rfl) rfl (er rfl (bz 2) aG aG) ?_
  exact ab.tup3 (ab.agg2 cZ cN) cN cZ
 refine jU 1216 ?_;refine ay 56 (fun g192=>?_) fun g192=>?_
 rotate_left
 ·refine jU 16300515004444 ?_
  refine ar (aJ 0 (u9 n l 0 hl) ?_)
  refine jU 751 ?_;refine bK 0 rfl fun gl2=>?_;refine py 12 (.rd 0 (.rd 1 (.rd 2 (.rd 3 (.rd 4 (.rd 5 (.rd 6 (.rd 7 (.rd 8 (.rd 9 (.rd 10 (.rd 11 .done)))))))))))) ?_;refine jU 703000020000100009000005000070100009000005000070 ?_;refine bV (fb (i:=(l.length-1)) (hz:=by omega)) ?_;refine BO ?_
  show cV _ _ _ _ _ _
  refine ar (bh 1 (lM (l.set (l.length-1) (ah (aD l)).rest)) ?_ ?_)
  ·exact (fun j hj=>IB hj)
  refine jU 785 ?_;refine jE (cS n 0 (l.set (l.length-1) (ah (aD l)).rest) 0 4 rfl rfl rfl (cO (by simp)) cZ (by simp) (fun _ _=>cZ)) ?_
  dsimp only [List.set_cons_zero,List.set_cons_succ,List.cons_append,List.nil_append,List.length_cons,List.length_nil,Nat.zero_add,Nat.reduceAdd]
  refine jE (freeze 3 rfl) ?_;refine jE (iP 7 (m:=2) rfl rfl jD) ?_;refine jI (.rd 0 (.rd 1 (.rd 2 (.rd 3 (.rd 4 (.rd 5 (.rd 6 (.rd 7 (.one 8 (.rd 9 (.rd 10 .done))))))))))) ?_;refine ig (gq 2) ?_;refine jU 400000400000 ?_;refine ig Oe ?_;refine ig IH ?_;refine ig Oe ?_;refine ig IJ ?_;refine ig tH ?_
  refine iL (ax 2 ?_)
  refine jU 3000500070008700000400000400000 ?_
  have hN:ac tag l 0=⟨l.set (l.length-1) (ah (aD l)).rest,0,(ah (aD l)).tag,(ah (aD l)).body,(aD l).take ((aD l).length-(ah (aD l)).rest.length),true⟩:=by unfold ac;rw [jK,jK,jK]
  rw [hN]
  refine ba (.inl rfl) rfl (er rfl (bz 2) aG aG) ?_
  exact ab.tup3 (ab.agg2 cZ cZ) (ab.bs (by congr 1;omega)) cZ
 refine jU 51100000000215090 ?_;refine aq (fun h192=>?_) fun h192=>?_
 ·refine bK 0 rfl fun gl2=>?_;refine jU 1200 ?_;refine jq (dy 4) ?_;refine jU 10040 ?_
  refine ar (bh 1 (fl [.os 4 gl2 0 l.length 1,.err 5]) ?_ ?_)
  ·exact (fun j hj=>by rcases j with _|_|j <;> exact cZ)
  refine jU 84005 ?_
  first
   | refine jE (cS n (ah (aD l)).e l 0 4 rfl rfl rfl (cO rfl) cZ (Nat.le_refl _) (fun _ _=>cZ)) ?_
   | refine jE (cS n 5 l 0 4 rfl rfl rfl (cO rfl) cZ (Nat.le_refl _) (fun _ _=>cZ)) ?_
  refine cy ?_;refine jq (ae (n:=2) rfl gC pD rfl rfl) ?_
  refine ar (ax 2 ?_)
  refine jU 7000511 ?_
  first
   |(have hN:ac tag l 0=⟨l,(ah (aD l)).e,0,[],[],false⟩:=by unfold ac;rw [jK,jP])
   |(have hN:ac tag l 0=⟨l,5,0,[],[],false⟩:=by unfold ac;rw [jK,jK,jP])
  rw [hN]
  refine ba (.inl rfl) rfl (er rfl (bz 2) aG aG) ?_
  exact ab.tup3 (ab.agg2 cZ cN) cN cZ
 refine jU 16 ?_
 refine ar (aJ 0 (u9 n l 0 hl) ?_)
 refine jU 751 ?_;refine bK 0 rfl fun gl2=>?_;refine py 12 (.rd 0 (.rd 1 (.rd 2 (.rd 3 (.rd 4 (.rd 5 (.rd 6 (.rd 7 (.rd 8 (.rd 9 (.rd 10 (.rd 11 .done)))))))))))) ?_;refine jU 703000020000100009000005000070100009000005000070 ?_;refine bV (fb (i:=(l.length-1)) (hz:=by omega)) ?_;refine BO ?_
 show cV _ _ _ _ _ _
 refine ar (bh 1 (lM (l.set (l.length-1) (ah (aD l)).rest)) ?_ ?_)
 ·exact (fun j hj=>IB hj)
 refine jU 785 ?_;refine jE (cS n 0 (l.set (l.length-1) (ah (aD l)).rest) 0 4 rfl rfl rfl (cO (by simp)) cZ (by simp) (fun _ _=>cZ)) ?_
 dsimp only [List.set_cons_zero,List.set_cons_succ,List.cons_append,List.nil_append,List.length_cons,List.length_nil,Nat.zero_add,Nat.reduceAdd]
 refine jE (freeze 3 rfl) ?_;refine jE (iP 7 (m:=2) rfl rfl jD) ?_;refine jI (.rd 0 (.rd 1 (.rd 2 (.rd 3 (.rd 4 (.rd 5 (.rd 6 (.rd 7 (.one 8 (.rd 9 (.rd 10 .done))))))))))) ?_;refine ig (gq 2) ?_;refine jU 400000400000 ?_;refine ig Oe ?_;refine ig IH ?_;refine ig Oe ?_;refine ig IJ ?_;refine ig tH ?_
 refine iL (ax 2 ?_)
 refine jU 3000500070008700000400000400000 ?_
 have hN:ac tag l 0=⟨l.set (l.length-1) (ah (aD l)).rest,0,(ah (aD l)).tag,(ah (aD l)).body,(aD l).take ((aD l).length-(ah (aD l)).rest.length),true⟩:=by unfold ac;rw [jK,jK,jK]
 rw [hN]
 refine ba (.inl rfl) rfl (er rfl (bz 2) aG aG) ?_
 exact ab.tup3 (ab.agg2 cZ cZ) (ab.bs (by congr 1;omega)) cZ
end
section
variable {gs:List Nat} [fZ gs]

def ag (tag:Int) (l:List (List UInt8)) (k:Nat):NR :=
 ac tag l (if cn l k=true∧bG tag=false then 5 else k)
def an (tag:Int) (l:List (List UInt8)) (k:Nat):List (List UInt8):=if (ag tag l k).is=true then (ag tag l k).l++[(ag tag l k).body] else (ag tag l k).l
theorem kV (n:Nat) (l:List (List UInt8)) (k:Nat) (tag:Int) (hl:0<l.length∧l.length≤1000000) (hb:(aD l).length≤10000000):AC gs Tryz.prog 64 [dA n l k] [.op 0 (some n) 0,.c (.int .i64 tag)]
  (fun r H'=>r=.c (.bool (ag tag l k).is)∧H'=[dA n (an tag l k) (ag tag l k).k]):=by
 have hnl:∀ k,0<(ac tag l k).l.length∧(ac tag l k).l.length≤1000000:=fun k=>by
  unfold ac
  split
  ·exact hl
  ·split
   ·exact hl
   ·split
    ·exact hl
    ·simp only [List.length_set];exact hl
 refine ai 48 Tryz.func64 fun al w0 F0 St0=>?_;refine jU 7516 ?_;refine bK 0 rfl fun gl=>?_;refine jU 501004016 ?_;refine bg (cS n k l 0 1 rfl rfl rfl (cO rfl) cZ (Nat.le_refl _) (fun _ _=>cZ)) ?_;refine jU 1500000 ?_;refine ay 13 (fun g204=>?_) fun g204=>?_
 rotate_left
 ·refine jU 810300550044415004444 ?_
  first
   |(refine jE (cS n 5 l 0 2 rfl rfl rfl (cO rfl) cZ (Nat.le_refl _) (fun _ _=>cZ)) ?_;refine jE (dB (H':=[dA n l 5]) [0] jD rfl) ?_;have hE:ag tag l k=ac tag l 5:=by unfold ag;rw [if_pos (by simp_all [cn,bG])])
   |(refine jE (dB (H':=[dA n l k]) [0] jD rfl) ?_;have hE:ag tag l k=ac tag l k:=by unfold ag;rw [if_neg (by simp_all [cn,bG])])
  refine jU 116 ?_
  refine ar (aJ 0 (kL n l _ tag hl hb) ?_)
  refine jU 9009009001 ?_
  refine ak (bD (n:=2) gC rfl fun p2=>?_)
  refine ar (ax 2 ?_)
  refine jU 7511 ?_
  rw [← hE]
  have hel:0<(ag tag l k).l.length∧(ag tag l k).l.length≤1000000:=by rw [hE];exact hnl _
  refine jU 516 ?_;refine aq (fun h208=>?_) fun h208=>?_
  rotate_left
  ·refine jU 810 ?_
   first
    |(refine jE (cS n (ag tag l k).k ((ag tag l k).l++[(ag tag l k).body]) 0 2 rfl rfl rfl (cO (by simp)) cZ (by simp) (fun _ _=>cZ)) ?_;have hL:an tag l k=(ag tag l k).l++[(ag tag l k).body]:=by unfold an;rw [if_pos (by simpa using h208)])
    | have hL:an tag l k=(ag tag l k).l:=by unfold an;rw [if_neg (by simpa using h208)]
   refine jU 70005116 ?_
   rw [hL]
   exact ba (.inl rfl) rfl (aA rfl (aP rfl)) cZ
  refine jE (freeze 1 rfl) ?_;refine jE (iP 5 (m:=2) rfl rfl jD) ?_
  dsimp only [List.set_cons_zero,List.set_cons_succ,List.cons_append,List.nil_append,List.length_cons,List.length_nil,Nat.zero_add,Nat.reduceAdd]
  refine bK 0 rfl fun gl3=>?_;refine jI (.rd 0 (.rd 1 (.rd 2 (.rd 3 (.rd 4 (.rd 5 (.rd 6 (.one 7 (.one 8 (.rd 9 (.rd 10 (.one 11 .done)))))))))))) ?_;refine jU 6000000050000000100000009000000400000400000 ?_;refine ig vl ?_
  refine yW (aU 1 1 cJ fun p3=>?_)
  refine iL (av (bW) (l2:=[(ag tag l k).body]) rfl rfl rfl rfl jO (fun _ _=>cZ) (aY rfl (.inl rfl) jD) rfl (fun j hj=>by rcases j with _|j <;> first|exact cZ|(exfalso;simp at hj <;> omega)) Tryz.underlying186 dY gQ cJ gW rfl (by (simp;omega)) (by (simp;omega)) (bi rfl rfl) rfl rfl rfl (fun p4=>?_))
  refine jU 100000009000000 ?_
  refine iL (ax 1 ?_)
  refine jU 8700000 ?_
  first
   |(refine jE (cS n (ag tag l k).k ((ag tag l k).l++[(ag tag l k).body]) 0 2 rfl rfl rfl (cO (by simp)) cZ (by simp) (fun _ _=>cZ)) ?_;have hL:an tag l k=(ag tag l k).l++[(ag tag l k).body]:=by unfold an;rw [if_pos (by simpa using h208)])
   | have hL:an tag l k=(ag tag l k).l:=by unfold an;rw [if_neg (by simpa using h208)]
  refine jU 70005116 ?_
  rw [hL]
  exact ba (.inl rfl) rfl (aA rfl (aP rfl)) cZ
 refine jU 1 ?_
 refine ar (aJ 0 (u9 n l k hl) ?_)
 refine jU 110000000023 ?_;refine ay 19 (fun g204_2=>?_) fun g204_2=>?_
 rotate_left
 ·refine jU 8103005500444 ?_
  first
   |(refine jE (cS n 5 l 0 2 rfl rfl rfl (cO rfl) cZ (Nat.le_refl _) (fun _ _=>cZ)) ?_;refine jE (dB (H':=[dA n l 5]) [0] jD rfl) ?_;have hE:ag tag l k=ac tag l 5:=by unfold ag;rw [if_pos (by simp_all [cn,bG])])
   |(refine jE (dB (H':=[dA n l k]) [0] jD rfl) ?_;have hE:ag tag l k=ac tag l k:=by unfold ag;rw [if_neg (by simp_all [cn,bG])])
  refine jU 116 ?_
  refine ar (aJ 0 (kL n l _ tag hl hb) ?_)
  refine jU 9009009001 ?_
  refine ak (bD (n:=2) gC rfl fun p3=>?_)
  refine ar (ax 2 ?_)
  refine jU 7511 ?_
  rw [← hE]
  have hel:0<(ag tag l k).l.length∧(ag tag l k).l.length≤1000000:=by rw [hE];exact hnl _
  refine jU 516 ?_;refine aq (fun h208=>?_) fun h208=>?_
  rotate_left
  ·refine jU 810 ?_
   first
    |(refine jE (cS n (ag tag l k).k ((ag tag l k).l++[(ag tag l k).body]) 0 2 rfl rfl rfl (cO (by simp)) cZ (by simp) (fun _ _=>cZ)) ?_;have hL:an tag l k=(ag tag l k).l++[(ag tag l k).body]:=by unfold an;rw [if_pos (by simpa using h208)])
    | have hL:an tag l k=(ag tag l k).l:=by unfold an;rw [if_neg (by simpa using h208)]
   refine jU 70005116 ?_
   rw [hL]
   exact ba (.inl rfl) rfl (aA rfl (aP rfl)) cZ
  refine jE (freeze 1 rfl) ?_;refine jE (iP 5 (m:=2) rfl rfl jD) ?_
  dsimp only [List.set_cons_zero,List.set_cons_succ,List.cons_append,List.nil_append,List.length_cons,List.length_nil,Nat.zero_add,Nat.reduceAdd]
  refine bK 0 rfl fun gl3=>?_;refine jI (.rd 0 (.rd 1 (.rd 2 (.rd 3 (.rd 4 (.rd 5 (.rd 6 (.one 7 (.one 8 (.rd 9 (.rd 10 (.one 11 .done)))))))))))) ?_;refine jU 6000000050000000100000009000000400000400000 ?_;refine ig vl ?_
  refine yW (aU 1 1 cJ fun p4=>?_)
  refine iL (av (bW) (l2:=[(ag tag l k).body]) rfl rfl rfl rfl jO (fun _ _=>cZ) (aY rfl (.inl rfl) jD) rfl (fun j hj=>by rcases j with _|j <;> first|exact cZ|(exfalso;simp at hj <;> omega)) Tryz.underlying186 dY gQ cJ gW rfl (by (simp;omega)) (by (simp;omega)) (bi rfl rfl) rfl rfl rfl (fun p5=>?_))
  refine jU 100000009000000 ?_
  refine iL (ax 1 ?_)
  refine jU 8700000 ?_
  first
   |(refine jE (cS n (ag tag l k).k ((ag tag l k).l++[(ag tag l k).body]) 0 2 rfl rfl rfl (cO (by simp)) cZ (by simp) (fun _ _=>cZ)) ?_;have hL:an tag l k=(ag tag l k).l++[(ag tag l k).body]:=by unfold an;rw [if_pos (by simpa using h208)])
   | have hL:an tag l k=(ag tag l k).l:=by unfold an;rw [if_neg (by simpa using h208)]
  refine jU 70005116 ?_
  rw [hL]
  exact ba (.inl rfl) rfl (aA rfl (aP rfl)) cZ
 refine jU 1 ?_
 refine ak (ap (tS _) ?_)
 refine jU 510000000030 ?_;refine aq (fun h204=>?_) fun h204=>?_
 rotate_left
 ·refine jU 810 ?_
  first
   |(refine jE (cS n 5 l 0 2 rfl rfl rfl (cO rfl) cZ (Nat.le_refl _) (fun _ _=>cZ)) ?_;refine jE (dB (H':=[dA n l 5]) [0] jD rfl) ?_;have hE:ag tag l k=ac tag l 5:=by unfold ag;rw [if_pos (by simp_all [cn,bG])])
   |(refine jE (dB (H':=[dA n l k]) [0] jD rfl) ?_;have hE:ag tag l k=ac tag l k:=by unfold ag;rw [if_neg (by simp_all [cn,bG])])
  refine jU 116 ?_
  refine ar (aJ 0 (kL n l _ tag hl hb) ?_)
  refine jU 9009009001 ?_
  refine ak (bD (n:=2) gC rfl fun p3=>?_)
  refine ar (ax 2 ?_)
  refine jU 7511 ?_
  rw [← hE]
  have hel:0<(ag tag l k).l.length∧(ag tag l k).l.length≤1000000:=by rw [hE];exact hnl _
  refine jU 516 ?_;refine aq (fun h208=>?_) fun h208=>?_
  rotate_left
  ·refine jU 810 ?_
   first
    |(refine jE (cS n (ag tag l k).k ((ag tag l k).l++[(ag tag l k).body]) 0 2 rfl rfl rfl (cO (by simp)) cZ (by simp) (fun _ _=>cZ)) ?_;have hL:an tag l k=(ag tag l k).l++[(ag tag l k).body]:=by unfold an;rw [if_pos (by simpa using h208)])
    | have hL:an tag l k=(ag tag l k).l:=by unfold an;rw [if_neg (by simpa using h208)]
   refine jU 70005116 ?_
   rw [hL]
   exact ba (.inl rfl) rfl (aA rfl (aP rfl)) cZ
  refine jE (freeze 1 rfl) ?_;refine jE (iP 5 (m:=2) rfl rfl jD) ?_
  dsimp only [List.set_cons_zero,List.set_cons_succ,List.cons_append,List.nil_append,List.length_cons,List.length_nil,Nat.zero_add,Nat.reduceAdd]
  refine bK 0 rfl fun gl3=>?_;refine jI (.rd 0 (.rd 1 (.rd 2 (.rd 3 (.rd 4 (.rd 5 (.rd 6 (.one 7 (.one 8 (.rd 9 (.rd 10 (.one 11 .done)))))))))))) ?_;refine jU 6000000050000000100000009000000400000400000 ?_;refine ig vl ?_
  refine yW (aU 1 1 cJ fun p4=>?_)
  refine iL (av (bW) (l2:=[(ag tag l k).body]) rfl rfl rfl rfl jO (fun _ _=>cZ) (aY rfl (.inl rfl) jD) rfl (fun j hj=>by rcases j with _|j <;> first|exact cZ|(exfalso;simp at hj <;> omega)) Tryz.underlying186 dY gQ cJ gW rfl (by (simp;omega)) (by (simp;omega)) (bi rfl rfl) rfl rfl rfl (fun p5=>?_))
  refine jU 100000009000000 ?_
  refine iL (ax 1 ?_)
  refine jU 8700000 ?_
  first
   |(refine jE (cS n (ag tag l k).k ((ag tag l k).l++[(ag tag l k).body]) 0 2 rfl rfl rfl (cO (by simp)) cZ (by simp) (fun _ _=>cZ)) ?_;have hL:an tag l k=(ag tag l k).l++[(ag tag l k).body]:=by unfold an;rw [if_pos (by simpa using h208)])
   | have hL:an tag l k=(ag tag l k).l:=by unfold an;rw [if_neg (by simpa using h208)]
  refine jU 70005116 ?_
  rw [hL]
  exact ba (.inl rfl) rfl (aA rfl (aP rfl)) cZ
 refine bK 0 rfl fun gl2=>?_;refine jU 1200 ?_;refine jq (dy 4) ?_;refine jU 10040 ?_
 refine ar (bh 1 (fl [.os 2 gl2 0 l.length 1,.err 5]) ?_ ?_)
 ·exact (fun j hj=>by rcases j with _|_|j <;> exact cZ)
 refine jU 85 ?_
 first
  |(refine jE (cS n 5 l 0 2 rfl rfl rfl (cO rfl) cZ (Nat.le_refl _) (fun _ _=>cZ)) ?_;refine jE (dB (H':=[dA n l 5]) [0] jD rfl) ?_;have hE:ag tag l k=ac tag l 5:=by unfold ag;rw [if_pos (by simp_all [cn,bG])])
  |(refine jE (dB (H':=[dA n l k]) [0] jD rfl) ?_;have hE:ag tag l k=ac tag l k:=by unfold ag;rw [if_neg (by simp_all [cn,bG])])
 refine jU 116 ?_
 refine ar (aJ 0 (kL n l _ tag hl hb) ?_)
 refine jU 9009009001 ?_
 refine ak (bD (n:=2) gC rfl fun p3=>?_)
 refine ar (ax 2 ?_)
 refine jU 7511 ?_
 rw [← hE]
 have hel:0<(ag tag l k).l.length∧(ag tag l k).l.length≤1000000:=by rw [hE];exact hnl _
 refine jU 516 ?_;refine aq (fun h208=>?_) fun h208=>?_
 rotate_left
 ·refine jU 810 ?_
  first
   |(refine jE (cS n (ag tag l k).k ((ag tag l k).l++[(ag tag l k).body]) 0 2 rfl rfl rfl (cO (by simp)) cZ (by simp) (fun _ _=>cZ)) ?_;have hL:an tag l k=(ag tag l k).l++[(ag tag l k).body]:=by unfold an;rw [if_pos (by simpa using h208)])
   | have hL:an tag l k=(ag tag l k).l:=by unfold an;rw [if_neg (by simpa using h208)]
  refine jU 70005116 ?_
  rw [hL]
  exact ba (.inl rfl) rfl (aA rfl (aP rfl)) cZ
 refine jE (freeze 1 rfl) ?_;refine jE (iP 5 (m:=2) rfl rfl jD) ?_
 dsimp only [List.set_cons_zero,List.set_cons_succ,List.cons_append,List.nil_append,List.length_cons,List.length_nil,Nat.zero_add,Nat.reduceAdd]
 refine bK 0 rfl fun gl3=>?_;refine jI (.rd 0 (.rd 1 (.rd 2 (.rd 3 (.rd 4 (.rd 5 (.rd 6 (.one 7 (.one 8 (.rd 9 (.rd 10 (.one 11 .done)))))))))))) ?_;refine jU 6000000050000000100000009000000400000400000 ?_;refine ig vl ?_
 refine yW (aU 1 1 cJ fun p4=>?_)
 refine iL (av (bW) (l2:=[(ag tag l k).body]) rfl rfl rfl rfl jO (fun _ _=>cZ) (aY rfl (.inl rfl) jD) rfl (fun j hj=>by rcases j with _|j <;> first|exact cZ|(exfalso;simp at hj <;> omega)) Tryz.underlying186 dY gQ cJ gW rfl (by (simp;omega)) (by (simp;omega)) (bi rfl rfl) rfl rfl rfl (fun p5=>?_))
 refine jU 100000009000000 ?_
 refine iL (ax 1 ?_)
 refine jU 8700000 ?_
 first
  |(refine jE (cS n (ag tag l k).k ((ag tag l k).l++[(ag tag l k).body]) 0 2 rfl rfl rfl (cO (by simp)) cZ (by simp) (fun _ _=>cZ)) ?_;have hL:an tag l k=(ag tag l k).l++[(ag tag l k).body]:=by unfold an;rw [if_pos (by simpa using h208)])
  | have hL:an tag l k=(ag tag l k).l:=by unfold an;rw [if_neg (by simpa using h208)]
 refine jU 70005116 ?_
 rw [hL]
 exact ba (.inl rfl) rfl (aA rfl (aP rfl)) cZ
def bc (l:List (List UInt8)) (k:Nat):Nat:=if k≠0 then k else if l.length=1 then 24 else if 0<(aD l).length then 4 else 0
def cQ (l:List (List UInt8)) (k:Nat):List (List UInt8):=if bc l k=0 then l.take (l.length-1) else l
theorem IC {l:List (List UInt8)} {m j:Nat} (h:j<m):ab (lM l j) (lM (l.take m) j):=by
 refine ab.of_eq ?_
 simp [lM,List.getD_eq_getElem?_getD,h]
theorem jH (n:Nat) (l:List (List UInt8)) (k:Nat) (hl:0<l.length∧l.length≤1000000):AC gs Tryz.prog 67 [dA n l k] [.op 0 (some n) 0]
  (fun r H'=>r=.c (.tuple #[])∧H'=[dA n (cQ l k) (bc l k)]):=by
 have stay:∀ {e},bc l k=e→e≠0→cQ l k=l:=fun h h0=>by unfold cQ;rw [h,if_neg h0]
 refine ai 45 Tryz.func67 fun al w0 F0 St0=>?_;refine bK 0 rfl fun gl=>?_;refine jU 5150000050100401620519350904016 ?_;refine aq (fun h218=>?_) fun h218=>?_
 ·refine jU 40010 ?_
  have e:bc l k=k:=by unfold bc;rw [jP]
  rw [stay e jO,e]
  exact dE (gd:=fun z:Nat×Option Nat=>z.1) (E:=Ar l k) (.inr rfl) _ (n,gl) [0,1] jD rfl (bN rfl) ⟨rfl,rfl⟩
 refine jU 51216 ?_;refine aq (fun h219=>?_) fun h219=>?_
 ·refine jU 1200 ?_;refine jq (dy 23) ?_;refine jU 10040 ?_
  refine ar (bh 1 (fl [.os 1 gl 0 l.length 1,.err 24]) ?_ ?_)
  ·exact (fun j hj=>by rcases j with _|_|j <;> exact cZ)
  refine jU 4005 ?_
  have e:bc l k=24:=by unfold bc;rw [jK,jP]
  rw [stay e jO,e]
  exact dE (gd:=fun z:Nat×Option Nat=>z.1) (E:=Ar l 24) (.inr rfl) _ (n,gl) [0,1] jD rfl (bN rfl) ⟨rfl,rfl⟩
 refine jU 150904016 ?_;refine jq (fb (i:=(l.length-1)) (hz:=by omega)) ?_;refine jU 512350 ?_;refine aq (fun h221=>?_) fun h221=>?_
 ·refine jU 1200 ?_;refine jq (dy 3) ?_;refine jU 10040 ?_
  refine ar (bh 1 (fl [.os 1 gl 0 l.length 1,.err 4]) ?_ ?_)
  ·exact (fun j hj=>by rcases j with _|_|j <;> exact cZ)
  refine jU 4005 ?_
  have e:bc l k=4:=by unfold bc;rw [jK,jK,if_pos (by unfold aD;omega)]
  rw [stay e jO,e]
  exact dE (gd:=fun z:Nat×Option Nat=>z.1) (E:=Ar l 4) (.inr rfl) _ (n,gl) [0,1] jD rfl (bN rfl) ⟨rfl,rfl⟩
 refine jU 150904011200 ?_;refine jq Od ?_;refine jU 9040 ?_
 have hk0:k=0:=by omega
 refine bg (nl 1 (l.length-1) (lM (l.take (l.length-1))) rfl jO (fun j hj=>IC hj)) ?_
 refine ar (bh 1 (fl [.os 1 gl 0 (l.length-1) 1,.err 0]) ?_ ?_)
 ·exact (fun j hj=>by rcases j with _|_|j <;> first|exact cZ|exact cO jO|exact ab.err hk0)
 refine jU 4005 ?_
 have e:bc l k=0:=by unfold bc;rw [jK,jK,if_neg (by unfold aD;omega)]
 have e2:cQ l k=l.take (l.length-1):=by unfold cQ;rw [if_pos e]
 have e3:(l.take (l.length-1)).length=l.length-1:=by rw [List.length_take];omega
 rw [e2,e]
 exact dE (gd:=fun z:Nat×Option Nat=>z.1) (E:=Ar (l.take (l.length-1)) 0) (.inr rfl) _ (n,gl) [0,1] jD (by unfold Ar;rw [e3];rfl) (bN rfl) ⟨rfl,rfl⟩
def ke (l:List (List UInt8)) (k:Nat):Nat:=if k≠0 then k else if 1<l.length then 24 else if 0<(l.getD 0 []).length then 4 else 0
theorem ox (n:Nat) (l:List (List UInt8)) (k:Nat) (hl:0<l.length∧l.length≤1000000):AC gs Tryz.prog 68 [dA n l k] [.op 0 (some n) 0]
  (fun r H'=>r=.err (ke l k)∧H'=[dA n l k]):=by
 refine ai 31 Tryz.func68 fun al w0 F0 St0=>?_;refine jU 207516 ?_;refine bK 0 rfl fun gl=>?_;refine jU 51500000501004016 ?_;refine aq (fun h292=>?_) fun h292=>?_
 ·refine jU 30005000700051501004016 ?_
  exact ib (gd:=fun z:Nat×Option Nat=>z.1) (E:=Ar l k) (.inl rfl) (n,gl) [0,1] jD rfl (aA rfl (aP rfl)) (ab.err (by unfold ke;rw [jP]))
 refine jU 512350904016 ?_;refine aq (fun h294=>?_) fun h294=>?_
 ·refine cy ?_;refine jq (dy 23) ?_;refine jU 30005000700051 ?_
  exact ib (gd:=fun z:Nat×Option Nat=>z.1) (E:=Ar l k) (.inl rfl) (n,gl) [0,1] jD rfl (aA rfl (aP rfl)) (ab.err (by unfold ke;rw [jK,jP]))
 refine jU 512350200000050904016 ?_;refine aq (fun h296=>?_) fun h296=>?_
 ·refine cy ?_;refine jq (dy 3) ?_;refine jU 30005000700051 ?_
  exact ib (gd:=fun z:Nat×Option Nat=>z.1) (E:=Ar l k) (.inl rfl) (n,gl) [0,1] jD rfl (aA rfl (aP rfl)) (ab.err (by unfold ke;rw [jK,jK,jP]))
 refine jU 7000516840010 ?_
 have e:ke l k=0:=by unfold ke;rw [jK,jK,jK]
 rw [e]
 exact ib (gd:=fun z:Nat×Option Nat=>z.1) (E:=Ar l k) (.inl rfl) (n,gl) [0,1] jD rfl (aA rfl (aP rfl)) ab.nil
end
section
variable {gs:List Nat} [fZ gs]

theorem ma {tag:Int} {l:List (List UInt8)} {k:Nat} (h:(ac tag l k).is=true):(ac tag l k).k=0∧(ac tag l k).body.length≤65530:=by
 have hb:=ew (aD l)
 unfold ac at h ⊢
 split
 ·rename_i h1;rw [if_pos h1] at h;cases h
 ·rename_i h1;rw [if_neg h1] at h
  split
  ·rename_i h2;rw [if_pos h2] at h;cases h
  ·rename_i h2;rw [if_neg h2] at h
   split
   ·rename_i h3;rw [if_pos h3] at h;cases h
   ·exact ⟨rfl,hb.2.2.1⟩
def dX (tag:Int) (l:List (List UInt8)) (k:Nat) (e:List UInt8→Nat):Nat:=if (ac tag l k).is=true then e (ac tag l k).body else (ac tag l k).k
theorem pb {tag:Int} {l:List (List UInt8)} {k:Nat}:(ac tag l k).l.length=l.length:=by
 unfold ac
 split
 ·rfl
 ·split
  ·rfl
  ·split
   ·rfl
   ·simp
theorem rJ {gs:List Nat} [fZ gs] {f:FuncId} {m:Nat} {fv:Nat→CV} (hc:br Tryz.prog f=true) (n:Nat) (l:List (List UInt8)) (k:Nat) (tag:Int) (get:List UInt8→Int×Nat) (hl:0<l.length∧l.length≤1000000) (hb:(aD l).length≤10000000) (hp:∀ b:List UInt8,b.length≤65530→bM gs Tryz.prog f (bu b::(List.range m).map fv) (.tup 2 (fl [.c (.int .i64 (get b).1),.err (get b).2]))) :
  AC gs Tryz.prog 182 [dA n l k] [.op 0 (some n) 0,.c (.int .i64 tag),.fn f m fv]
   (fun r H'=>r=.c (.int .i64 (if (ac tag l k).is=true∧(get (ac tag l k).body).2=0 then (get (ac tag l k).body).1 else 0))∧H'=[dA n (ac tag l k).l (dX tag l k fun b=>(get b).2)]):=by
 have hln:(ac tag l k).l.length=l.length:=pb
 refine ai 38 Tryz.func182 fun al w0 F0 St0=>?_;refine jU 116516516 ?_
 refine ar (aJ 0 (kL n l k tag hl hb) ?_)
 refine jU 9009009001 ?_
 refine ak (bD (n:=2) gC rfl fun p2=>?_)
 refine ar (ax 2 ?_)
 refine jU 530167511 ?_;refine aq (fun h232=>?_) fun h232=>?_
 ·refine jU 300070005116 ?_
  rw [if_neg (by simp_all)]
  have e:(dX tag l k fun b=>(get b).2)=(ac tag l k).k:=by unfold dX;rw [if_neg (by simpa using h232)]
  rw [e]
  exact ba (.inl rfl) rfl (aA rfl (aP rfl)) cZ
 refine jU 810 ?_
 have his:=ma (by simpa using h232)
 refine jU 5010016 ?_
 refine ak (iE rfl rfl (by assumption) (hp (ac tag l k).body his.2) (rn cZ _) rfl rfl ?_)
 rintro _ _ ⟨rfl,rfl⟩
 refine jU 55000001675119009001 ?_;refine aq (fun h236=>?_) fun h236=>?_
 rotate_left
 ·refine jU 70005116810 ?_
  have h0:(get (ac tag l k).body).2=0:=by omega
  rw [if_pos ⟨by simpa using h232,h0⟩]
  have e:(dX tag l k fun b=>(get b).2)=(ac tag l k).k:=by unfold dX;rw [if_pos (by simpa using h232),his.1];exact h0
  rw [e]
  exact ba (.inl rfl) rfl (aA rfl (aP rfl)) cZ
 refine bK 0 rfl fun gl=>?_;refine jU 10040116 ?_
 refine ar (ax 1 ?_)
 refine jU 5 ?_;refine jE (cS n (get (ac tag l k).body).2 (ac tag l k).l 0 2 rfl rfl rfl (cO rfl) cZ (Nat.le_refl _) (fun _ _=>cZ)) ?_;refine jU 300070005116 ?_
 rw [jK]
 have e:(dX tag l k fun b=>(get b).2)=(get (ac tag l k).body).2:=by unfold dX;rw [if_pos (by simpa using h232)]
 rw [e]
 exact ba (.inl rfl) rfl (aA rfl (aP rfl)) cZ
theorem ab.fn2' {k:FuncId} {f g:Nat→CV} (h0:ab (f 0) (g 0)) (h1:ab (f 1) (g 1)):ab (.fn k 2 f) (.fn k 2 g):=fun al St w v ⟨cs,k1,k2,k3⟩=>⟨cs,k1,k2,fun i hi=>by
 rcases i with _|_|i
 ·exact h0 _ _ _ _ (k3 0 jO)
 ·exact h1 _ _ _ _ (k3 1 jO)
 ·omega⟩
theorem mV {z:Int}:∀ j,j<1→ab (fl [CV.c (.int .i64 z)] (0+j)) (CV.c (.int .i64 z)):=fun j hj=>by
 obtain rfl:j=0:=by omega
 exact cZ
def Ey (a b:Int):Nat→CV:=fl [.rp 1 fun _=>.c (.int .i64 a),.rp 1 fun _=>.c (.int .i64 b)]
theorem L0 (least most:Int) (b:List UInt8):bM gs Tryz.prog 183 (bu b::(List.range 2).map (Ey least most)) (.tup 2 (fl [.c (.int .i64 (aI b least most).1),.err (aI b least most).2])):=by
 refine ai 12 Tryz.func183 fun al w0 F0 St0=>?_;refine jU 6060165116 ?_
 refine ak (ap (wG b least most) ?_)
 refine jU 511900900 ?_
 refine jR cX
theorem IS (n:Nat) (l:List (List UInt8)) (k:Nat) (least most:Int) (hl:0<l.length∧l.length≤1000000) (hb:(aD l).length≤10000000) :
  AC gs Tryz.prog 114 [dA n l k] [.op 0 (some n) 0,.c (.int .i64 least),.c (.int .i64 most)]
   (fun r H'=>r=.c (.int .i64 (if (ac 2 l k).is=true∧(aI (ac 2 l k).body least most).2=0 then (aI (ac 2 l k).body least most).1 else 0))∧H'=[dA n (ac 2 l k).l (dX 2 l k fun b=>(aI b least most).2)]):=by
 refine ai 10 Tryz.func114 fun al w0 F0 St0=>?_;refine cy ?_
 refine ak (cE 1 fun p1=>?_)
 refine ak (cE 1 fun p2=>?_)
 refine jU 51 ?_;refine jE (freeze 1 rfl) ?_;refine jE (freeze 2 rfl) ?_;refine jE (iP 4 (m:=1) rfl rfl jD) ?_;refine jE (iP 5 (m:=1) rfl rfl jD) ?_;refine jU 16 ?_;refine jq FN ?_
 refine ar (aJ 0 (rJ (fv:=Ey least most) (by kernel_rfl) n l k 2 (fun b=>aI b least most) hl hb (fun b _=>L0 least most b)) ?_ (ho:=rfl) (he:=(.cons (se rfl cP) (.cons (se rfl cZ) (.cons (se rfl (ab.fn2' (ab.rp mV) (ab.rp mV))) .nil)))))
 refine jU 700051 ?_
 exact ba (.inl rfl) rfl (aA rfl (aP rfl)) cZ
end
section
variable {gs:List Nat} [fZ gs]

theorem lX (b:List UInt8) (hb:b.length≤10000000):AC gs Tryz.prog 63 [] [bu b] (fun r H'=>∃ n,r=.op 0 (some n) 0∧H'=[dA n [b] (af b).2]):=by
 refine ai 10 Tryz.func63 fun al w0 F0 St0=>?_;refine jU 16516 ?_
 refine ak (ap (ml b jO) ?_)
 refine ak (aU 1 1 cJ fun p1=>?_)
 refine jU 1 ?_
 refine ak (ap (JM b hb) ?_)
 refine jq (ae (n:=2) rfl OK Pc rfl rfl) ?_
 refine ak (cE 2 fun p2=>?_)
 refine jU 51 ?_;refine kZ (tW 2 rfl) fun hn=>?_
 obtain ⟨n,rfl⟩:=hn
 refine jE (cS n (af b).2 [b] 1 0 rfl rfl rfl (cO rfl) cZ (Nat.le_refl _) (fun a ha=>by obtain rfl:a=0:=(by simpa using ha);exact cZ)) ?_;refine jU 7000 ?_
 exact bo (.inl rfl) [1] jD rfl (aA rfl (aP rfl)) (cP (j:=0)) ⟨n,rfl,rfl⟩
end
section
variable {gs:List Nat} [fZ gs]

theorem Et {gs:List Nat} [fZ gs] {f:FuncId} {m:Nat} {fv:Nat→CV} (hc:br Tryz.prog f=true) (n:Nat) (l:List (List UInt8)) (k:Nat) (tag:Int) (get:List UInt8→(List UInt8)×Nat) (hl:0<l.length∧l.length≤1000000) (hb:(aD l).length≤10000000) (hp:∀ b:List UInt8,b.length≤65530→bM gs Tryz.prog f (bu b::(List.range m).map fv) (.tup 2 (fl [bu (get b).1,.err (get b).2]))) :
  AC gs Tryz.prog 139 [dA n l k] [.op 0 (some n) 0,.c (.int .i64 tag),.fn f m fv]
   (fun r H'=>r=bu (if (ac tag l k).is=true∧(get (ac tag l k).body).2=0 then (get (ac tag l k).body).1 else [])∧H'=[dA n (ac tag l k).l (dX tag l k fun b=>(get b).2)]):=by
 have hln:(ac tag l k).l.length=l.length:=pb
 refine ai 38 Tryz.func139 fun al w0 F0 St0=>?_;refine jU 116516516 ?_
 refine ar (aJ 0 (kL n l k tag hl hb) ?_)
 refine jU 9009009001 ?_
 refine ak (bD (n:=2) gC rfl fun p2=>?_)
 refine ar (ax 2 ?_)
 refine jU 530167511 ?_;refine aq (fun h232=>?_) fun h232=>?_
 ·refine jU 300070005116 ?_
  rw [if_neg (by simp_all)]
  have e:(dX tag l k fun b=>(get b).2)=(ac tag l k).k:=by unfold dX;rw [if_neg (by simpa using h232)]
  rw [e]
  exact ba (.inl rfl) rfl (aA rfl (aP rfl)) (by exact cN)
 refine jU 810 ?_
 have his:=ma (by simpa using h232)
 refine jU 5010016 ?_
 refine ak (iE rfl rfl (by assumption) (hp (ac tag l k).body his.2) (rn cZ _) rfl rfl ?_)
 rintro _ _ ⟨rfl,rfl⟩
 refine jU 55000001675119009001 ?_;refine aq (fun h236=>?_) fun h236=>?_
 rotate_left
 ·refine jU 70005116810 ?_
  have h0:(get (ac tag l k).body).2=0:=by omega
  rw [if_pos ⟨by simpa using h232,h0⟩]
  have e:(dX tag l k fun b=>(get b).2)=(ac tag l k).k:=by unfold dX;rw [if_pos (by simpa using h232),his.1];exact h0
  rw [e]
  exact ba (.inl rfl) rfl (aA rfl (aP rfl)) (by exact cZ)
 refine bK 0 rfl fun gl=>?_;refine jU 10040116 ?_
 refine ar (ax 1 ?_)
 refine jU 5 ?_;refine jE (cS n (get (ac tag l k).body).2 (ac tag l k).l 0 2 rfl rfl rfl (cO rfl) cZ (Nat.le_refl _) (fun _ _=>cZ)) ?_;refine jU 300070005116 ?_
 rw [jK]
 have e:(dX tag l k fun b=>(get b).2)=(get (ac tag l k).body).2:=by unfold dX;rw [if_pos (by simpa using h232)]
 rw [e]
 exact ba (.inl rfl) rfl (aA rfl (aP rfl)) (by exact cN)
theorem wK {gs:List Nat} [fZ gs] {f:FuncId} {m:Nat} {fv:Nat→CV} (hc:br Tryz.prog f=true) (n:Nat) (l:List (List UInt8)) (k:Nat) (tag:Int) (get:List UInt8→(List UInt8)×Nat) (hl:0<l.length∧l.length≤1000000) (hb:(aD l).length≤10000000) (hp:∀ b:List UInt8,b.length≤65530→bM gs Tryz.prog f (bu b::(List.range m).map fv) (.tup 2 (fl [au (get b).1,.err (get b).2]))) :
  AC gs Tryz.prog 194 [dA n l k] [.op 0 (some n) 0,.c (.int .i64 tag),.fn f m fv]
   (fun r H'=>r=au (if (ac tag l k).is=true∧(get (ac tag l k).body).2=0 then (get (ac tag l k).body).1 else [])∧H'=[dA n (ac tag l k).l (dX tag l k fun b=>(get b).2)]):=by
 have hln:(ac tag l k).l.length=l.length:=pb
 refine ai 38 Tryz.func194 fun al w0 F0 St0=>?_;refine jU 116516516 ?_
 refine ar (aJ 0 (kL n l k tag hl hb) ?_)
 refine jU 9009009001 ?_
 refine ak (bD (n:=2) gC rfl fun p2=>?_)
 refine ar (ax 2 ?_)
 refine jU 530167511 ?_;refine aq (fun h232=>?_) fun h232=>?_
 ·refine jU 300070005116 ?_
  rw [if_neg (by simp_all)]
  have e:(dX tag l k fun b=>(get b).2)=(ac tag l k).k:=by unfold dX;rw [if_neg (by simpa using h232)]
  rw [e]
  exact ba (.inl rfl) rfl (aA rfl (aP rfl)) cZ
 refine jU 810 ?_
 have his:=ma (by simpa using h232)
 refine jU 5010016 ?_
 refine ak (iE rfl rfl (by assumption) (hp (ac tag l k).body his.2) (rn cZ _) rfl rfl ?_)
 rintro _ _ ⟨rfl,rfl⟩
 refine jU 55000001675119009001 ?_;refine aq (fun h236=>?_) fun h236=>?_
 rotate_left
 ·refine jU 70005116810 ?_
  have h0:(get (ac tag l k).body).2=0:=by omega
  rw [if_pos ⟨by simpa using h232,h0⟩]
  have e:(dX tag l k fun b=>(get b).2)=(ac tag l k).k:=by unfold dX;rw [if_pos (by simpa using h232),his.1];exact h0
  rw [e]
  exact ba (.inl rfl) rfl (aA rfl (aP rfl)) cZ
 refine bK 0 rfl fun gl=>?_;refine jU 10040116 ?_
 refine ar (ax 1 ?_)
 refine jU 5 ?_;refine jE (cS n (get (ac tag l k).body).2 (ac tag l k).l 0 2 rfl rfl rfl (cO rfl) cZ (Nat.le_refl _) (fun _ _=>cZ)) ?_;refine jU 300070005116 ?_
 rw [jK]
 have e:(dX tag l k fun b=>(get b).2)=(get (ac tag l k).body).2:=by unfold dX;rw [if_pos (by simpa using h232)]
 rw [e]
 exact ba (.inl rfl) rfl (aA rfl (aP rfl)) cZ
theorem xP (n:Nat) (l:List (List UInt8)) (k:Nat) (least most:Int) (hl:0<l.length∧l.length≤1000000) (hb:(aD l).length≤10000000) :
  AC gs Tryz.prog 145 [dA n l k] [.op 0 (some n) 0,.c (.int .i64 least),.c (.int .i64 most)]
   (fun r H'=>r=.c (.int .i64 (if (ac 10 l k).is=true∧(aI (ac 10 l k).body least most).2=0 then (aI (ac 10 l k).body least most).1 else 0))∧H'=[dA n (ac 10 l k).l (dX 10 l k fun b=>(aI b least most).2)]):=by
 have g:∀ b,bM gs Tryz.prog 204 (bu b::(List.range 2).map (Ey least most)) (.tup 2 (fl [.c (.int .i64 (aI b least most).1),.err (aI b least most).2])):=fun b=>by
  refine ai 12 Tryz.func204 fun al w0 F0 St0=>?_;refine jU 6060165116 ?_
  refine ak (ap (wG b least most) ?_)
  refine jU 511900900 ?_
  refine jR cX
 refine ai 10 Tryz.func145 fun al w0 F0 St0=>?_;refine cy ?_
 refine ak (cE 1 fun p1=>?_)
 refine ak (cE 1 fun p2=>?_)
 refine jU 51 ?_;refine jE (freeze 1 rfl) ?_;refine jE (freeze 2 rfl) ?_;refine jE (iP 4 (m:=1) rfl rfl jD) ?_;refine jE (iP 5 (m:=1) rfl rfl jD) ?_;refine jU 16 ?_;refine jq FN ?_
 refine ar (aJ 0 (rJ (fv:=Ey least most) (by kernel_rfl) n l k 10 (fun b=>aI b least most) hl hb (fun b _=>g b)) ?_ (ho:=rfl) (he:=(.cons (se rfl cP) (.cons (se rfl cZ) (.cons (se rfl (ab.fn2' (ab.rp mV) (ab.rp mV))) .nil)))))
 refine jU 700051 ?_
 exact ba (.inl rfl) rfl (aA rfl (aP rfl)) cZ
end
section
def KK (ls:List (List UInt8)) (j:Nat):CV:=au (ls.getD j [])
def QH (ls:List (List UInt8)):CV:=.rs 1 ls.length fun i _=>au (ls.getD i [])
theorem yz:Dj 1 KK:=fun l l2 j hj=>by
 simp only [KK,List.getD_eq_getElem?_getD]
 split
 ·rw [List.getElem?_append_left jO]
 ·rw [List.getElem?_append_right jO,Nat.mul_one]
theorem Du {ls:List (List UInt8)}:∀ a b,a<ls.length→b<1→ab (KK ls (0+(a * 1+b))) (au (ls.getD a [])):=fun a b ha hb=>ab.of_eq (by rw [show 0+(a * 1+b)=a by omega];rfl)
end
section
theorem LV {gs:List Nat} (ls:List (List UInt8)) (sep:List UInt8) (h1:ls.length≤1000000000) (h2:(Lib.join ls sep).length≤100000000000):bM gs Tryz.prog 293 [QH ls,au sep] (au (Lib.join ls sep)) :=
 oC fun al w St vals hs hv hr=>by
  obtain ⟨ao,cap,k1,k2,k3,k4,k5⟩:=hr 0
  rw [ui hv,show vals.getD 0 undef=.slice ao ls.length cap from k1,show vals.getD 1 undef=.string ⟨sep.toArray⟩ from hr 1]
  by_cases hn:ls=[]
  ·subst hn
   exact (Tryz.strings_Join_none ao cap _ w).mono (by rintro e w' ⟨rfl,rfl⟩;exact ⟨rfl,Below.refl _ _⟩)
  ·have hp:0<ls.length:=List.length_pos_iff.2 hn
   obtain ⟨a,rfl⟩:∃ a,ao=some a:=by
    cases ao with
    | none=>have:=k4 rfl;omega
    | some a=>exact ⟨a,rfl⟩
   obtain ⟨e1,e2,e3⟩:=k5 a rfl hp
   obtain ⟨bk,o,sp⟩:=a
   obtain rfl:sp=none:=e1
   have hm:(ls.map fun l=>(⟨l.toArray⟩:ByteArray)).map (·.data.toList)=ls:=by
    rw [List.map_map]
    exact (List.map_congr_left fun x _=>by simp).trans (List.map_id ls)
   have hc:∀ (j:Nat) x,(ls.map fun l=>(⟨l.toArray⟩:ByteArray))[j]?=some x→w.cell? ⟨bk,o+j,none⟩=some (.string x):=fun j x hx=>by
    rw [List.getElem?_map] at hx
    obtain ⟨y,hy,rfl⟩:=Option.map_eq_some_iff.1 hx
    have hj:j<ls.length:=(List.getElem?_eq_some_iff.1 hy).1
    obtain ⟨v,hv1,hv2⟩:=e3 j 0 hj jO
    rw [show o+(j * 1+0)=o+j by omega] at hv1
    rw [hv1]
    have:v=.string ⟨(ls.getD j []).toArray⟩:=hv2
    rw [this,List.getD_eq_getElem?_getD,hy];rfl
   have hb:bk<w.heap.size:=by
    obtain ⟨v,hv1,hv2⟩:=e3 0 0 hp jO
    exact World.block_lt_of_cell? w _ hv1
   have hj:=Tryz.strings_Join bk o cap (ls.map fun l=>(⟨l.toArray⟩:ByteArray)) ⟨sep.toArray⟩ w hc hb (by rw [List.length_map];omega) (by rw [List.length_map];exact k2) (by rw [hm];show (Lib.join ls sep).length≤_;omega)
   rw [hm,List.length_map] at hj
   exact hj
end
section
variable {gs:List Nat} [Ke gs]

def IT (n:Int):Bool:=decide (0≤n) && decide (n≤2147483647)
theorem fy {l:List Int} (h:(l.length:Int)<2∨(16:Int)<l.length∨l.getD 0 0<0∨2<l.getD 0 0∨(l.getD 0 0<2∧39<l.getD 1 0)∨l.all IT=false):cC l=false:=by
 cases e:cC l with
 | false=>rfl
 | true =>
  obtain ⟨h1,h2,h3,h4,h5⟩:=ip e
  rcases h with h|h|h|h|h|h
  ·omega
  ·omega
  ·have:=h3 _ (de (l:=l) (k:=0) 0 jO);omega
  ·omega
  ·omega
  ·have:l.all IT=true:=List.all_eq_true.2 fun n hn=>by have:=h3 n hn;unfold IT;simp;omega
   rw [this] at h;cases h
theorem uH {l:List Int} (h1:¬ (l.length:Int)<2) (h2:¬ (16:Int)<l.length) (h3:¬ 2<l.getD 0 0) (h4:¬ (l.getD 0 0<2∧39<l.getD 1 0)) (h5:l.all IT=true):cC l=true:=by
 unfold cC
 have e:l.all (fun n=>decide (0≤n) && decide (n≤2147483647))=true:=h5
 rw [e,decide_eq_true (show 2≤l.length by omega),decide_eq_true (show l.length≤16 by omega),decide_eq_true (show l.getD 0 0≤2 by omega)]
 by_cases h6:l.getD 0 0=2
 ·rw [decide_eq_true h6];rfl
 ·rw [decide_eq_true (show l.getD 1 0<40 by omega),Bool.or_true];rfl
theorem D5 {n:Int} (h1:¬ n<0) (h2:¬ 2147483647<n):IT n=true:=by
 unfold IT
 simp only [Bool.and_eq_true,decide_eq_true_eq]
 omega
theorem y8 {n:Int} (h:n<0∨2147483647<n):IT n=false:=by
 cases e:IT n with
 | false=>rfl
 | true =>
  unfold IT at e
  simp only [Bool.and_eq_true,decide_eq_true_eq] at e
  omega
theorem vA (p:List UInt8):((sC p).2=true↔(lN p).2=0)∧((sC p).2=true→(sC p).1=(lN p).1):=by
 unfold sC
 split
 ·rename_i h;exact ⟨⟨fun _=>h,fun _=>rfl⟩,fun _=>rfl⟩
 ·rename_i h;exact ⟨⟨fun e=>(by cases e),fun e=>absurd e h⟩,fun e=>(by cases e)⟩
theorem DO {p:List UInt8} (h:(sC p).2=false∨(10:Int)<p.length):xk p=false:=by
 cases e:xk p with
 | false=>rfl
 | true =>
  unfold xk at e
  simp only [Bool.and_eq_true,decide_eq_true_eq] at e
  have:=(vA p).1.2 e.1
  rcases h with h|h
  ·rw [h] at this;cases this
  ·omega
theorem Ay {p:List UInt8} (h:(sC p).2=true) (h2:¬ (10:Int)<p.length):xk p=true∧((sC p).1:Int)=nL p:=by
 refine ⟨?_,by rw [(vA p).2 h];rfl⟩
 unfold xk
 simp only [Bool.and_eq_true,decide_eq_true_eq]
 exact ⟨(vA p).1.1 h,by omega⟩
theorem rN {α:Type} {p:α→Bool} {l:List α} {i:Nat} (d:α) (h:i<l.length) (h1:(l.take i).all p=true) (h2:p (l.getD i d)=true):(l.take (i+1)).all p=true:=by
 rw [jp d h,List.all_append,h1,List.all_cons,h2]
 rfl
theorem mD {gs:List Nat} (l:List Int):bM gs Tryz.prog 244 [wl l] (.c (.bool (cC l))):=by
 refine kg 0 rfl fun hlen=>?_;refine ai 50 Tryz.func244 fun al w0 F0 St0=>?_;refine jU 123167516 ?_;refine ay 8 (fun g11=>?_) fun g11=>?_
 ·refine jU 80003000700051690005100000000444444444411000000004444110000000044441100000000444 ?_;refine cB ?_
  refine (fy ?_).symm
  omega
 refine jU 1500231 ?_;refine ay 13 (fun g11_2=>?_) fun g11_2=>?_
 ·refine jU 8000300070005169000510000000044444444441100000000444411000000004444 ?_;refine cB ?_
  refine (fy ?_).symm
  omega
 refine jU 150026020000001 ?_;refine ay 19 (fun g11_3=>?_) fun g11_3=>?_
 ·refine jU 80003000700051690005100000000444444444411000000004444 ?_;refine cB ?_
  refine (fy ?_).symm
  omega
 refine jU 150026020000001 ?_;refine ay 25 (fun g11_4=>?_) fun g11_4=>?_
 ·refine jU 800030007000516900051000000004444444444 ?_;refine cB ?_
  refine (fy ?_).symm
  omega
 refine jU 126020000001 ?_;refine ay 30 (fun g11_5=>?_) fun g11_5=>?_
 rotate_left
 ·refine jU 2051316781030055005004444 ?_;refine aF (α:=Nat) [2,4,39,40,41,42,43,44,45,46,47,48,49] (fun i=>[(39,.c (.int .i64 (i:Nat)))]) (fun _=>[]) (fun i=>i≤l.length∧(l.take i).all IT=true) (fun i=>l.length-i) (0) ?_ (fun _=>rfl) ?_ ?_ ?_
  ·exact ⟨Nat.zero_le _,rfl⟩
  ·(repeat (first|exact bZ.nil|refine bZ.cons cZ ?_))
  ·(repeat (exact aS.nil))
  ·rintro i ⟨(hi:i≤l.length),hall⟩
   refine jU 7526 ?_;refine aq (fun h14=>?_) fun h14=>?_
   rotate_left
   ·refine jU 8000700051684000200020006000 ?_;refine cB ?_
    rw [show i=l.length by omega,List.take_length] at hall
    exact (uH jO jO jO jO hall).symm
   refine jU 121651607006207810 ?_;refine ay 45 (fun g15=>?_) fun g15=>?_
   ·refine jU 80003000500030003000500070005169000510000000044 ?_;refine cB ?_
    exact (fy (.inr (.inr (.inr (.inr (.inr (ic (k:=i) 0 jO (y8 jO)))))))).symm
   refine jU 550021 ?_;refine aq (fun h15=>?_) fun h15=>?_
   ·refine jU 8000300050003000300050007000516 ?_;refine cB ?_
    exact (fy (.inr (.inr (.inr (.inr (.inr (ic (k:=i) 0 jO (y8 jO)))))))).symm
   refine jU 8519200840010 ?_;refine aw (i+1) ?_ ?_
   ·exact ⟨by omega,rN 0 jO hall (D5 jO jO)⟩
   ·show l.length-(i+1)<l.length-i;omega
 refine jU 1 ?_;refine jq (fb (i:=1)) ?_;refine jU 5500100000000260 ?_;refine aq (fun h11=>?_) fun h11=>?_
 ·refine jU 800030007000516 ?_;refine cB ?_
  refine (fy ?_).symm
  omega
 refine jU 20513167810 ?_;refine aF (α:=Nat) [2,4,39,40,41,42,43,44,45,46,47,48,49] (fun i=>[(39,.c (.int .i64 (i:Nat)))]) (fun _=>[]) (fun i=>i≤l.length∧(l.take i).all IT=true) (fun i=>l.length-i) (0) ?_ (fun _=>rfl) ?_ ?_ ?_
 ·exact ⟨Nat.zero_le _,rfl⟩
 ·(repeat (first|exact bZ.nil|refine bZ.cons cZ ?_))
 ·(repeat (exact aS.nil))
 ·rintro i ⟨(hi:i≤l.length),hall⟩
  refine jU 7526 ?_;refine aq (fun h14=>?_) fun h14=>?_
  rotate_left
  ·refine jU 8000700051684000200020006000 ?_;refine cB ?_
   rw [show i=l.length by omega,List.take_length] at hall
   exact (uH jO jO jO jO hall).symm
  refine jU 121651607006207810 ?_;refine ay 45 (fun g15=>?_) fun g15=>?_
  ·refine jU 80003000500030003000500070005169000510000000044 ?_;refine cB ?_
   exact (fy (.inr (.inr (.inr (.inr (.inr (ic (k:=i) 0 jO (y8 jO)))))))).symm
  refine jU 550021 ?_;refine aq (fun h15=>?_) fun h15=>?_
  ·refine jU 8000300050003000300050007000516 ?_;refine cB ?_
   exact (fy (.inr (.inr (.inr (.inr (.inr (ic (k:=i) 0 jO (y8 jO)))))))).symm
  refine jU 8519200840010 ?_;refine aw (i+1) ?_ ?_
  ·exact ⟨by omega,rN 0 jO hall (D5 jO jO)⟩
  ·show l.length-(i+1)<l.length-i;omega

theorem zT {c:UInt8} {s:List UInt8} {a i:Nat} (hai:a≤i) (hi:i<s.length) (hno:c ∉ (s.take i).drop a) (hc:s.getD i 0=c):aB c (s.drop a)=(s.take i).drop a::aB c (s.drop (i+1)):=by
 have e:s.drop a=(s.take i).drop a++c::s.drop (i+1):=by
  have h1:s=s.take i++s.drop i:=(List.take_append_drop i s).symm
  have h2:s.drop i=c::s.drop (i+1):=by
   rw [List.drop_eq_getElem_cons hi,← hc]
   simp [List.getD,hi]
  conv=>lhs;rw [h1,List.drop_append_of_le_length (by rw [List.length_take];omega),h2]
 rw [e,rR _ hno]
theorem Cy {c:UInt8} {s:List UInt8} {a i:Nat} (hai:a≤i) (hi:i<s.length) (hno:c ∉ (s.take i).drop a) (hc:s.getD i 0≠c):c ∉ (s.take (i+1)).drop a:=by
 rw [jp 0 hi,List.drop_append_of_le_length (by rw [List.length_take];omega)]
 intro h
 rcases List.mem_append.1 h with h|h
 ·exact hno h
 ·exact hc (List.mem_singleton.1 h).symm
theorem Np {c d:UInt8} (h:(c.toNat:Int)=d.toNat):c=d:=UInt8.toNat_inj.1 jO
theorem ES {gs:List Nat} (s:List UInt8) (hs:s.length≤1000000000):bM gs Tryz.prog 248 [au s] (QH (aB 46 s)):=by
 have hpl:=oN 46 s
 refine ai 32 Tryz.func248 fun al w0 F0 St0=>?_;refine jU 6516 ?_
 refine ak (aU 0 1 Kg fun p1=>?_)
 refine jU 205167511 ?_;refine aF (α:=Nat×Nat×List (List UInt8)×Option Nat) [3,4,5,7,8,9,10,11,12,13,14,15,16,17,18,19,20,21,22,23,24,25] (fun (i,a,X,g)=>[(5,.c (.int .i64 (i:Nat))),(4,.c (.int .i64 (a:Nat))),(3,.os 0 g 0 X.length 1)]) (fun (i,a,X,g)=>[(g,.blk (X.length * 1) (KK X))]) (fun (i,a,X,g)=>i≤s.length∧a≤i∧X.length≤i∧aB 46 s=X++aB 46 (s.drop a)∧(46:UInt8) ∉ (s.take i).drop a) (fun (i,a,X,g)=>s.length-i) ((0,0,[],p1)) ?_ (fun _=>rfl) ?_ ?_ ?_
 ·exact ⟨Nat.zero_le _,Nat.le_refl _,Nat.le_refl _,by simp,by simp⟩
 ·exact .cons cZ (.cons cZ (.cons cZ .nil))
 ·exact .blk rfl (fun j hj=>absurd hj (Nat.not_lt_zero j)) .nil
 ·rintro ⟨i,a,X,g⟩ ⟨(hi:i≤s.length),(ha:a≤i),(hX:X.length≤i),hsp,hno⟩
  refine jU 52400001167 ?_;refine aq (fun h25=>?_) fun h25=>?_
  rotate_left
  ·refine jU 111684000200020006000 ?_;refine jq (uS rfl rfl Tryz.underlying9 rfl (show _=((a:Nat):Int) by omega) (by (omega))) ?_
   refine ak (aU 1 1 Kg fun p2=>?_)
   refine ar (av (yz) (l2:=[s.drop a]) rfl rfl rfl rfl (by exact Nat.le_refl _) (fun _ _=>cZ) (aY rfl (.inl rfl) jD) rfl (fun j hj=>by rcases j with _|j <;> first|exact cZ|(exfalso;simp at hj <;> omega)) Tryz.underlying82 N4 Qa Kg QA rfl (by (simp;omega)) (by (simp;omega)) (bi rfl rfl) rfl rfl rfl (fun p3=>?_))
   refine jU 51 ?_
   have hi2:i=s.length:=by omega
   rw [hi2,List.take_length] at hno
   rw [nN hno] at hsp
   refine jE (freeze 0 rfl) ?_;refine jE (eP 2 (fun b _=>au ((X++[s.drop a]).getD b [])) rfl rfl jO Du) ?_;refine jU 80007000 ?_
   rw [hsp]
   exact cZ
  refine jU 5280000000116207810 ?_;refine aq (fun h26=>?_) fun h26=>?_
  rotate_left
  ·refine jU 85191200840010 ?_
   refine aw ((i+1,a,X,g)) ?_ ?_ (h5:=?_) (h7:=?_)
   ·exact ⟨by omega,by omega,by omega,hsp,Cy ha jO hno (fun e=>h26 (by rw [e];rfl))⟩
   ·show s.length-(i+1)<s.length-i;omega
   ·exact .cons (cI jO) (.cons cZ (.cons cZ .nil))
   ·exact .same .nil
  refine jU 11116 ?_;refine jq (rW rfl rfl Tryz.underlying9 (bY rfl (show _=((a:Nat):Int) by omega)) (bY rfl (show _=((i:Nat):Int) by omega)) (by (omega)) (by (omega))) ?_
  refine ak (aU 1 1 Kg fun p2=>?_)
  refine ar (av (yz) (l2:=[(s.take i).drop a]) rfl rfl rfl rfl (by exact Nat.le_refl _) (fun _ _=>cZ) (aY rfl (.inl rfl) jD) rfl (fun j hj=>by rcases j with _|j <;> first|exact cZ|(exfalso;simp at hj <;> omega)) Tryz.underlying82 N4 Qa Kg QA rfl (by (simp;omega)) (by (simp;omega)) (bi rfl rfl) rfl rfl rfl (fun p3=>?_))
  refine jU 851912008400519120051 ?_
  refine aw ((i+1,i+1,X++[(s.take i).drop a],p3)) ?_ ?_ (h5:=?_) (h7:=?_)
  ·exact ⟨by omega,by omega,by simp;omega,by rw [hsp,zT ha jO hno (Np (d:=46) h26)];simp,by rw [List.drop_eq_nil_of_le (by simp only [List.length_take];omega)];exact List.not_mem_nil⟩
  ·show s.length-(i+1)<s.length-i;omega
  ·exact .cons (cI jO) (.cons (cI jO) (.cons cZ .nil))
  ·exact .same .nil
set_option maxHeartbeats 1000000 in
theorem EV {gs:List Nat} (s:List UInt8) (hs:s.length≤1000000000):bM gs Tryz.prog 212 [au s] (.tup 2 (fl [wl (bB s).1,.c (.int .i64 ((bB s).2:Nat))])):=by
 have hpl:=oN 46 s
 refine ai 38 Tryz.func212 fun al w0 F0 St0=>?_;refine jU 65116 ?_
 refine ak (aU 0 1 nj fun p1=>?_)
 refine jU 16751 ?_
 refine ak (ap (ES s hs) ?_)
 refine jU 20513 ?_;refine aF (α:=Nat×List Int×Option Nat) [2,3,4,6,7,8,13,14,15,16,17,18,19,20,21,22,23,24,25,26,27,28,29,30,31,32,33] (fun (k,X,g)=>[(13,.c (.int .i64 (k:Nat))),(4,.os 0 g 0 X.length 1)]) (fun (k,X,g)=>[(g,.blk X.length (kQ X))]) (fun (k,X,g)=>k≤(aB 46 s).length∧X=((aB 46 s).take k).map nL∧((aB 46 s).take k).all xk=true) (fun (k,X,g)=>(aB 46 s).length-k) ((0,[],p1)) ?_ (fun _=>rfl) ?_ ?_ ?_
 ·exact ⟨Nat.zero_le _,rfl,rfl⟩
 ·exact .cons cZ (.cons cZ .nil)
 ·exact .blk rfl (fun j hj=>absurd hj (Nat.not_lt_zero j)) .nil
 ·rintro ⟨k,X,g⟩ ⟨(hk:k≤_),hX,hall⟩
  have hXl:X.length≤k:=by rw [hX,List.length_map,List.length_take];omega
  refine jU 7526 ?_;refine aq (fun h37=>?_) fun h37=>?_
  rotate_left
  ·refine jU 784000200020006000 ?_
   have hk2:k=(aB 46 s).length:=by omega
   rw [hk2,List.take_length] at hX hall
   refine jE (freeze 0 rfl) ?_;refine jE (mr 4 X rfl rfl rfl (Nat.ble_eq_true_of_le (Nat.le_refl _)) (fun j hj=>cZ)) ?_;refine jU 16 ?_
   refine ak (ap (mD X) ?_)
   refine jU 530 ?_;refine aq (fun h44=>?_) fun h44=>?_
   ·refine jU 8000300070005116 ?_
    have hb:=sY hall (by rw [← hX];simpa using h44)
    exact cT (ab.nilS' (by rw [hb.1];rfl)) (cI (by rw [hb.2];rfl))
   refine jU 8000700051116810 ?_
   have hb:=u0 hall (by rw [← hX];simpa using h44)
   exact cT (show ab (wl X) _ from ab.of_eq (by rw [hb.1,hX])) (cI (by rw [hb.2];rfl))
  refine jU 1651607006207810 ?_
  refine ak (ap (K0 ((aB 46 s).getD k [])) ?_)
  refine jU 1301675119009001 ?_;refine ay 24 (fun g39=>?_) fun g39=>?_
  ·refine jU 80003000500030003000500030007000511690005100000000444 ?_
   have hb:=r8 (s:=s) (ic (k:=k) [] jO (by exact DO (.inl (by simpa using g39))))
   exact cT (ab.nilS' (by rw [hb.1];rfl)) (cI (by rw [hb.2];rfl))
  refine jU 55002400001 ?_;refine aq (fun h39=>?_) fun h39=>?_
  ·refine jU 800030005000300030005000300070005116 ?_
   have hb:=r8 (s:=s) (ic (k:=k) [] jO (by exact DO (.inr jO)))
   exact cT (ab.nilS' (by rw [hb.1];rfl)) (cI (by rw [hb.2];rfl))
  refine jU 11200810 ?_
  refine ak (aU 1 1 nj fun p2=>?_)
  refine ar (av fS (l2:=[nL ((aB 46 s).getD k [])]) rfl rfl rfl rfl (by exact Nat.le_of_eq (Nat.mul_one _)) (fun _ _=>cZ) (aY rfl (.inl rfl) jD) rfl (lz (.cons (cI ((Ay (by simpa using g39) h39).2)) .nil)) Tryz.underlying137 lw uq nj Eh rfl (by (simp;omega)) (by (simp;omega)) (bi rfl rfl) rfl rfl (Nat.mul_one _) (fun p3=>?_))
  refine jU 8519200840051 ?_
  refine aw ((k+1,X++[nL ((aB 46 s).getD k [])],p3)) ?_ ?_ (h5:=?_) (h7:=?_)
  ·exact ⟨by omega,by rw [hX,jp [] jO,List.map_append];rfl,rN [] jO hall (Ay (by simpa using g39) h39).1⟩
  ·show (aB 46 s).length-(k+1)<(aB 46 s).length-k;omega
  ·exact .cons (cI jO) (.cons cZ .nil)
  ·exact .same .nil
end
section
variable {gs:List Nat} [fZ gs]

theorem GP {gs:List Nat} {g:FuncId} {n:Nat} {fv:Nat→CV} (hc:br Tryz.prog g=true) (l:List (UInt8)) (p:(UInt8)→Bool) (hp:∀ r,bM gs Tryz.prog g ((fun z:UInt8=>.c (.int .u8 (z.toNat:Nat))) r::(List.range n).map fv) (.c (.bool (p r)))) :
  bM gs Tryz.prog 290 [bu l,.fn g n fv] (.c (.int .i64 (ee p l))):=by
 refine kg 0 rfl fun hlen=>?_;refine ai 19 Tryz.func290 fun al w0 F0 St0=>?_;refine jU 20513167516 ?_;refine aF (α:=Nat) [4,5,8,9,10,11,12,13,14,15,16,17,18] (fun i=>[(8,.c (.int .i64 (i:Nat)))]) (fun _=>[]) (fun i=>i≤l.length∧∀ j (hj:j<l.length),j<i→p l[j]=false) (fun i=>l.length-i) (0) ?_ (fun _=>rfl) ?_ ?_ ?_
 ·exact ⟨by omega,fun j _ hj=>absurd hj (Nat.not_lt_zero j)⟩
 ·(repeat (first|exact bZ.nil|refine bZ.cons cZ ?_))
 ·(repeat (exact aS.nil))
 ·rintro i ⟨hi,he⟩
  refine jU 7526 ?_;refine aq (fun h108=>?_) fun h108=>?_
  rotate_left
  ·refine jU 8000700051684000200020006000 ?_;refine cI ?_
   exact (tj fun j hj=>he j hj jO).symm
  refine jU 6070011165116207810 ?_
  refine ak (iE rfl rfl (by assumption) (hp (l.getD i 0)) (rn cZ _) rfl rfl ?_)
  rintro _ _ ⟨rfl,rfl⟩
  refine jU 5 ?_;refine aq (fun h109=>?_) fun h109=>?_
  ·refine jU 80003000500030003000500070005116 ?_;refine cI ?_
   have hlt:i<l.length:=by omega
   exact (sA i hlt (by simpa [List.getD,hlt] using h109) (fun j hj=>he j jO hj)).symm
  refine jU 8519200840010 ?_;refine aw (i+1) ?_ ?_
  ·exact ⟨by omega,fun j hj hj1=>by
    by_cases e:j=i
    ·subst e
     simpa [List.getD,hj] using h109
    ·exact he j hj jO⟩
  ·omega
theorem N9 {gs:List Nat} (c:UInt8):bM gs Tryz.prog 291 (.c (.int .u8 (c.toNat:Nat))::(List.range 0).map fun _=>.top) (.c (.bool (decide (c.toNat<128)))):=by
 refine ai 5 Tryz.func291 fun al w0 F0 St0=>?_;refine jU 8000700051216516 ?_;refine cB ?_
 (simp_all;omega)
def MO (f:FuncId) (g:Option Nat):CV:=.fn f 1 (fl [.op 0 g 0])
theorem KS {gs:List Nat} (b:List UInt8):AC gs Tryz.prog 271 [] [bu b] (fun r H'=>∃ g,r=MO 289 g∧H'=[(g,.blk 1 (fun _=>bu b))]):=by
 refine ai 4 Tryz.func271 fun al w0 F0 St0=>?_;refine cy ?_
 refine ak (cE 1 fun p1=>?_)
 refine jU 51 ?_;refine jE (gB 0 (m:=1) (F:=fun _=>bu b) rfl (Nat.le_refl _) (fun _=>rfl) (fun j hj=>by obtain rfl:j=0:=jO;exact cZ)) ?_;refine cy ?_;refine jq FN ?_;refine jU 700051 ?_
 exact bQ (.inl rfl) (MO 289 p1) _ [0] jD rfl ((aA rfl (aP rfl)).ent (by refine ab.fn1 ?_;exact cP)) ⟨_,rfl,rfl⟩
theorem EL {b rest:List UInt8} {k:Nat} (h:(bJ b).drop k=bJ rest) (hr:rest≠[]):k<(bJ b).length∧(bJ b).getD k []=rest.take (bn rest)∧(bJ b).drop (k+1)=bJ (rest.drop (bn rest)):=by
 rw [mA hr] at h
 have h2:=sE (d:=[]) h
 refine ⟨?_,h2.1,h2.2⟩
 apply Classical.byContradiction
 intro hn
 rw [List.drop_eq_nil_of_le jO] at h
 cases h
theorem Hf {b rest:List UInt8} {k:Nat} (h:(bJ b).drop k=bJ rest) (hr:rest=[]) (hk:k≤(bJ b).length):k=(bJ b).length:=by
 subst hr
 rw [iX] at h
 have:=List.drop_eq_nil_iff.1 h
 omega
theorem EK {gs:List Nat} (b:List UInt8) (g:Option Nat) (hb:b.length≤100000000000):Kf gs Tryz.prog 289 [(g,.blk 1 (fun _=>bu b))] ((List.range 1).map (fl [.op 0 g 0])) (bJ b).length (fun k=>[bu ((bJ b).getD k [])]):=fun l J Jx hY=>by
 refine Dh true 23 Tryz.func289 rfl rfl rfl (fun al w0 F0 St0=>?_)
 refine jU 20 ?_;refine aF (α:=Nat×List UInt8) [3,4,5,6,7,8,9,10,11,12,13,14,15,16,17,18,19,20,21,22] (fun _=>[]) (fun (k,rest)=>[(g,.blk 1 (fun _=>bu rest)),(some l,.obj (J k))]) (fun (k,rest)=>(bJ b).drop k=bJ rest∧rest.length≤b.length∧k≤(bJ b).length) (fun (k,rest)=>rest.length) ((0,b)) ?_ (fun _=>rfl) ?_ ?_ ?_
 ·exact ⟨rfl,Nat.le_refl _,Nat.zero_le _⟩
 ·exact .nil
 ·exact .same (.same .nil)
 ·rintro ⟨k,rest⟩ ⟨hk,hlen,hkn⟩
  refine jU 5235067 ?_;refine aq (fun h83=>?_) fun h83=>?_
  rotate_left
  ·refine jU 4000200020006000 ?_
   exact bQ (.inr rfl) _ _ [1] jD rfl (bN rfl) (.inl (by rw [← Hf hk (List.length_eq_zero_iff.1 jO) hkn];rfl))
  refine jU 20810 ?_
  have hne:rest≠[]:=List.length_pos_iff.1 jO
  have hk2:=EL hk hne
  have hrl:=LN rest (fun c=>decide (c.toNat<128)) (fun _=>rfl)
  have hrp:=fx hne
  have hrn:=kw rest
  have hfb:=mf (fun c:UInt8=>decide (c.toNat<128)) rest
  refine jU 506 ?_
  refine ak (ap (GP (n:=0) (fv:=fun _=>.top) (by kernel_rfl) rest (fun c=>decide (c.toNat<128)) N9) ?_ (ho:=rfl) (he:=(.cons (se rfl cZ) (.cons (se rfl ab.fn0) .nil))))
  refine jU 519 ?_;refine eW (α:=Unit) [3,10,11,12,13] (fun _=>[(3,.c (.int .i64 (bn rest:Nat)))]) (fun _=>[(g,.blk 1 (fun _=>bu rest)),(some l,.obj (J k))]) (fun _=>True) (fun _=>rfl) ?_ ?_
  ·refine jU 5216 ?_;refine aq (fun h85=>?_) fun h85=>?_
   rotate_left
   ·refine jU 810 ?_
    refine dh (()) ?_ (h5:=?_) (h7:=?_)
    ·trivial
    ·exact .cons (cI jO) .nil
    ·exact .same (.same .nil)
   refine jU 851350200 ?_
   refine dh (()) ?_ (h5:=?_) (h7:=?_)
   ·trivial
   ·exact .cons (cI jO) .nil
   ·exact .same (.same .nil)
  ·rintro u _
   refine jU 150167 ?_;refine jq (tH (hz2:=(show _=(((bn rest):Nat):Int) by omega))) ?_
   refine ym (bq rfl) rfl (yN (i:=1) rfl rfl rfl (hY k hk2.1) (.cons (se rfl (ab.bs hk2.2.1.symm)) .nil) rfl rfl ?_)
   rintro _ _ (⟨rfl,rfl⟩|⟨rfl,rfl⟩)
   ·refine ⟨_,_,rfl,cZ,?_⟩
    refine jU 150200810300530 ?_;refine jq (nF (hz1:=(show _=(((bn rest):Nat):Int) by omega))) ?_
    refine ar (ax 1 ?_)
    refine jU 84005 ?_
    refine aw ((k+1,rest.drop (bn rest))) ?_ ?_ (h5:=?_) (h7:=?_)
    ·exact ⟨hk2.2.2,by rw [List.length_drop];omega,by omega⟩
    ·show (rest.drop (bn rest)).length<rest.length;rw [List.length_drop];omega
    ·exact .nil
    ·exact .blk rfl (fun j hj=>by obtain rfl:j=0:=jO;exact cZ) (.same .nil)
   ·refine ⟨_,_,rfl,cZ,?_⟩
    refine jU 500030005000300070009000530 ?_
    exact bQ (.inl rfl) _ _ [1] jD rfl (bN rfl) (.inr rfl)

theorem zY {l:List Int} {i:Nat} (h:i<l.length):((l.take (i+1)).map fun n=>kY n.toNat)=((l.take i).map fun n=>kY n.toNat)++[kY (l.getD i 0).toNat]:=by
 rw [jp 0 h,List.map_append];rfl
theorem H3 (l:List Int):bM gs Tryz.prog 273 [wl l] (.tup 2 (fl [au (sR l).1,.err (sR l).2])):=by
 refine kg 0 rfl fun hlen=>?_;refine ai 25 Tryz.func273 fun al w0 F0 St0=>?_;refine jU 1675116 ?_
 refine ak (ap (xi l) ?_)
 refine jU 530 ?_;refine aq (fun h47=>?_) fun h47=>?_
 ·refine iy ?_;refine ff (.rd 0 (.rd 1 (.rd 2 .done))) ?_;refine bV (dy 0) ?_;refine jU 8000300070008807070 ?_
  have hb:sR l=([],1):=by unfold sR;rw [if_neg (by simp_all)]
  exact cT (ab.strL (by rw [hb])) (ab.errN (by rw [hb]))
 refine jU 7516810 ?_;refine jE (gv (KK [])) ?_;refine jU 2051316 ?_;refine aF (α:=Nat×List (List UInt8)×Option Nat) [4,6,13,14,15,16,17,18,19,20,21,22] (fun (i,X,g)=>[(13,.c (.int .i64 (i:Nat))),(4,.os 0 g 0 X.length 1)]) (fun (i,X,g)=>[(g,.blk (X.length * 1) (KK X))]) (fun (i,X,g)=>i≤l.length∧X=(l.take i).map fun n=>kY n.toNat) (fun (i,X,g)=>l.length-i) ((0,[],none)) ?_ (fun _=>rfl) ?_ ?_ ?_
 ·exact ⟨Nat.zero_le _,rfl⟩
 ·exact .cons cZ (.cons ab.nilO .nil)
 ·exact .blk rfl (fun j hj=>absurd hj (Nat.not_lt_zero j)) .nil
 ·rintro ⟨i,X,g⟩ ⟨(hi:i≤l.length),hX⟩
  have hXl:X.length=i:=by rw [hX,List.length_map,List.length_take];omega
  obtain ⟨r1,r2,r3,_,_⟩:=ip (l:=l) (by simp_all)
  refine jE (gv (KK [])) ?_;refine jU 7526 ?_;refine aq (fun h51=>?_) fun h51=>?_
  rotate_left
  ·refine jU 84000200020006000 ?_
   have hi2:i=l.length:=by omega
   rw [hi2,List.take_length] at hX
   have hb:sR l=(kh l,0):=by unfold sR;rw [if_pos (by simp_all)]
   obtain ⟨q1,q2,q3,_,_⟩:=ip (l:=l) (by simp_all)
   have hjl:=vn (c:=46) (m:=10) (ls:=X) (fun p hp=>by
    rw [hX] at hp
    obtain ⟨n,hn,rfl⟩:=List.mem_map.1 hp
    exact kr 9 n.toNat (by have:=q3 n hn;omega))
   have hjo:=A0 46 X
   refine jE (freeze 0 rfl) ?_;refine jE (eP 4 (fun b _=>au (X.getD b [])) rfl rfl jO Du) ?_;refine jU 16 ?_
   refine ak (ap (LV X [46] jO (by rw [hjo];omega)) ?_)
   refine jU 511 ?_
   refine jR (cX (hv:=cT (ab.strL (by rw [hb,hjo,hX];rfl)) (ab.nilE (by rw [hb]))))
  refine jU 207810 ?_;refine jE (gv (KK [])) ?_;refine jU 51607006 ?_
  have hn:=r3 _ (de (l:=l) (k:=i) 0 jO)
  refine jU 11200 ?_
  refine ak (ap (Kv (l.getD i 0).toNat jO) ?_ (ho:=rfl) (he:=(.cons (se rfl (cI jO)) .nil)))
  refine ak (aU 1 1 Kg fun p1=>?_)
  refine ar (av (yz) (l2:=[kY (l.getD i 0).toNat]) rfl rfl rfl rfl (by exact Nat.le_refl _) (fun _ _=>cZ) (aY rfl (.inl rfl) jD) rfl (fun j hj=>by rcases j with _|j <;> first|exact cZ|(exfalso;simp at hj <;> omega)) Tryz.underlying82 N4 Qa Kg QA rfl (by (simp;omega)) (by (simp;omega)) (bi rfl rfl) rfl rfl rfl (fun p2=>?_))
  refine jU 840051 ?_;refine jE (gv (KK [])) ?_;refine jU 8519200 ?_
  refine aw ((i+1,X++[kY (l.getD i 0).toNat],p2)) ?_ ?_ (h5:=?_) (h7:=?_)
  ·exact ⟨by omega,by rw [hX,zY jO]⟩
  ·show l.length-(i+1)<l.length-i;omega
  ·exact .cons (cI jO) (.cons cZ .nil)
  ·exact .same .nil
end
end Am
end Go.Proofs.YthlpfjnkieaeeaaGreatDoor
