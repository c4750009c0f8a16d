/- What the law leans on, part 9: W08x, P08b, W08a, W08b, W08c, W08d, W08e, W08f, SsJ, W05f, W05g -/
import Derived.Test.YthlpfjnkieaeeaaGreatDoorM8ObjectsOthers

set_option maxRecDepth 100000
namespace Go.Proofs.YthlpfjnkieaeeaaGreatDoor
set_option linter.unusedVariables false
namespace Am
open Go.RowKit
section
variable {gs:List Nat} [Ok9 gs]
open Go.RowKit Cal

theorem okRD_tail {s:R8} (h:OkRD s):OkR ⟨s.tags.take (s.tags.length-1),s.rows,s.e⟩:=⟨by have:=h.ok.n;simp only [List.length_take];omega,h.ok.r,h.ok.k⟩
theorem bodyF_if (t:Int) (l:List (List UInt8)):bodyF (t,l)=if t=49 then (sortL l).flatten else l.flatten:=rfl
theorem in_take {l:List Int} {i:Nat} (h:i<l.length-1):inF l i=inF (l.take (l.length-1)) i:=by
 simp only [inF,List.getD_eq_getElem?_getD,List.getElem?_take,h,if_true]
def lsF (t:Int) (l:List (List UInt8)):List (List UInt8):=if t=49 then sortL l else l
theorem lsF_body (t:Int) (l:List (List UInt8)):bodyF (t,l)=(lsF t l).flatten:=by unfold lsF;rw [bodyF_if];split <;> rfl
theorem lsF_len (t:Int) (l:List (List UInt8)):(lsF t l).length=l.length∧sumL (lsF t l)=sumL l:=by
 unfold lsF
 split
 ·exact ⟨sortL_length l,sum_perm (sortL_perm l)⟩
 ·exact ⟨rfl,rfl⟩
theorem body_tag (v:VV):0≤(bodyV v).1∧(bodyV v).1<256:=by
 unfold bodyV
 repeat' split
 all_goals (constructor <;> dsimp only <;> omega)
theorem bodyV_len {v:VV} (h:OkV v):(bodyV v).2.1.length≤1000000:=by
 have h1:=h.b
 have h2:=h.t
 have h3:=(putN_len v.n h.n.1 h.n.2).2
 have h4:=put_len v.t
 unfold bodyV
 split
 ·show (putN v.n).length≤_;omega
 ·split
  ·show (putN v.n).length≤_;omega
  ·split
   ·show [if v.is then (255:UInt8) else 0].length≤_;simp
   ·split
    ·exact h1
    ·split
     ·show (if askedM v.t v.n=0 then v.t else []).length≤_;split <;> first|omega|simp
     ·split
      ·show (putM v.t).length≤_;omega
      ·split
       ·show (if inT v.n then bodyL (ofM v.n) else []).length≤_
        split
        ·exact Nat.le_trans (Nat.le_of_eq (show (bodyL (ofM v.n)).length=15 from rfl)) (by decide)
        ·simp
       ·show (bitsL v.n).length≤_
        unfold bitsL
        split
        ·simp
        ·rw [flags_len (by omega)]
         have:=(bl_is (m:=v.n.toNat) (by omega)).2
         omega
set_option maxHeartbeats 4000000 in
theorem rdoWB_ac {gs:List Nat} (n:Nat) (s:R8) (v:VV) (hs:OkRD s) (hv:OkV v) (hB:v.kind≠1→v.kind≠2→v.kind≠11→AC gs Tryz.prog 157 [] [valC v] (BodyQ v)):AC gs Tryz.prog 80 [rwO n s] [.op 0 (some n) 0,valC v] (fun r H'=>r=.c (.tuple #[])∧H'=[rwO n (rdoS v s)]):=by
 have hsn:=hs.ok.n
 have hsr:=hs.ok.r
 have hvb:=hv.b
 have hkk:=okR_at hs.ok s.tags.length
 have hss:=hs.sum s.tags.length
 refine ac_of 183 Tryz.func80 rfl rfl rfl (fun al w0 F0 St0=>?_)
 refine jcr ?_
 refine jqe (jebx 5 fun p1=>?_)
 refine jU 75 ?_;refine code_openRW 0 rfl fun gr=>?_;refine jE (freeze 1 rfl) ?_;refine jE (thawP 3 (m:=5) rfl rfl (by decide)) ?_
 dsimp only [List.set_cons_zero,List.set_cons_succ,List.cons_append,List.nil_append,List.length_cons,List.length_nil,Nat.zero_add,Nat.reduceAdd]
 refine jU 525010004016 ?_;refine jcc (fun h81=>?_) fun h81=>?_
 ·refine jU 30007000 ?_
  rw [show rdoS v s=s by unfold rdoS;rw [if_pos (by omega)]]
  exact end_closeRW (.inl rfl) n s 2 (res_0 rfl) cZ rfl rfl rfl (by exact cZ) (by exact cO rfl) (by exact cZ) (Nat.le_refl _) (fun _ _=>by exact cZ)
 refine jU 512620560906810 ?_;refine jcc (fun h85=>?_) fun h85=>?_
 ·refine jU 601006 ?_
  refine jqe (jecP (rmade_ac v.n) ?_)
  refine jU 530 ?_;refine jcc (fun h86=>?_) fun h86=>?_
  ·refine jU 1000401200 ?_
   refine jqm (jmstF 1 (rwB ⟨s.tags,s.rows,5⟩ 2 gr) ?_ ?_)
   ·exact (fun j hj=>by rcases j with _|_|_|j <;> exact cZ)
   refine jU 4005 ?_
   rw [show rdoS v s=⟨s.tags,s.rows,5⟩ by unfold rdoS;rw [if_neg (by omega),if_pos (by omega)];unfold ropenS;rw [if_pos (by simp [madeM] at h86 ⊢;omega)]]
   exact end_closeRW (.inr rfl) n ⟨s.tags,s.rows,5⟩ 2 (res_0 rfl) cZ rfl rfl rfl (by exact cZ) (by exact cO rfl) (by exact cZ) (Nat.le_refl _) (fun _ _=>by exact cZ)
  refine jU 52350904016 ?_;refine jcc (fun h88=>?_) fun h88=>?_
  ·refine jU 1000401200 ?_
   refine jqm (jmstF 1 (rwB ⟨s.tags,s.rows,6⟩ 2 gr) ?_ ?_)
   ·exact (fun j hj=>by rcases j with _|_|_|j <;> exact cZ)
   refine jU 4005 ?_
   rw [show rdoS v s=⟨s.tags,s.rows,6⟩ by unfold rdoS;rw [if_neg (by omega),if_pos (by omega)];unfold ropenS;rw [if_neg (by simp [madeM] at h86 ⊢;omega),if_pos (by omega)]]
   exact end_closeRW (.inr rfl) n ⟨s.tags,s.rows,6⟩ 2 (res_0 rfl) cZ rfl rfl rfl (by exact cZ) (by exact cO rfl) (by exact cZ) (Nat.le_refl _) (fun _ _=>by exact cZ)
  refine jU 207 ?_;refine l_loop (α:=Nat×Option Nat) [56,57,58,59,60,61,62,63,64,65,66,67,68,69,70,71,72,73,74,75,76] (fun i=>[]) (fun (i,g)=>[(some n,.blk 3 (rwB (moreS s i) 2 g)),(p1,.frz 5 (fl [.c (.int .i64 v.kind),.c (.int .i64 v.n),.c (.bool v.is),bsC v.b,strC v.t])),(g,.blk (moreS s i).rows.length (rowsF (moreS s i).rows))]) (fun i=>i.1≤s.tags.length+2-s.rows.length) (fun i=>s.tags.length+2-s.rows.length-i.1) ((0,gr)) ?_ (fun _=>rfl) ?_ ?_ ?_
  ·exact Nat.zero_le _
  ·(repeat (exact EntE.nil))
  ·(show HEnt _ [(some n,Res.blk 3 (rwB (moreS s 0) 2 gr)),_,(gr,.blk (moreS s 0).rows.length (rowsF (moreS s 0).rows))];rw [show moreS s 0=s by unfold moreS;simp];exact HEnt.refl _)
  ·rintro ⟨i,g⟩ (hi:i≤s.tags.length+2-s.rows.length)
   have hml:(moreS s i).rows.length=s.rows.length+i:=by simp [moreS]
   have hmt:(moreS s i).tags.length=s.tags.length:=rfl
   refine jU 77 ?_;refine jcd (.rd 0 (.rd 1 (.rd 2 (.rd 3 (.rd 4 (.rd 5 (.rd 6 (.rd 7 (.rd 8 (.rd 9 (.rd 10 (.rd 11 .done)))))))))))) ?_;refine jU 8808003000020000100009000005000070200001000080000005000070 ?_;refine jcc (fun h91=>?_) fun h91=>?_
   ·refine jU 50100401120020810 ?_
    refine jqe (jebl 1 1 zr186 fun p2=>?_)
    refine seq_ent (weakH 3 1 (rowsF [[]]) rfl (Nat.le_refl _) (fun j hj=>by rcases j with _|j <;> first|exact CEnt.nilS _ _|omega)) ?_
    refine jqm (m_appendC rowC_rows (l2:=[[]]) rfl rfl rfl rfl (Nat.le_of_eq (Nat.mul_one _)) (fun _ _=>cZ) (src_os rfl (.inl rfl) (by decide)) rfl (fun j hj=>by rw [Nat.zero_add];exact cZ) Tryz.underlying138 nu138 sz186 zr186 by186 rfl (by simp;omega) (by simp;omega) (fun j hj=>rfl) rfl rfl (Nat.mul_one _) (fun p3=>?_))
    refine jU 10040 ?_
    refine jqm (jmstF 1 (rwB (moreS s (i+1)) 2 p3) ?_ ?_)
    ·exact (fun j hj=>by rcases j with _|_|_|j <;> first|exact cZ|exact cO (by rw [more_succ]))
    refine jU 84005 ?_
    refine jlend ((i+1,p3)) ?_ ?_ (h7:=?_)
    ·(show i+1≤_;omega)
    ·(show _-(i+1)<_-i;omega)
    ·simp only [more_succ];exact HEnt.refl _
   refine jU 784000200020006000 ?_
   have hiE:i=s.tags.length+2-s.rows.length:=by omega
   have hpl:=pad_len (s.tags.length+2) s.rows
   dsimp only
   rw [more_pad s i _ hiE]
   rw [more_pad s i _ hiE] at hml
   have hLl:([]++s.tags++[v.n]).length=s.tags.length+1:=by simp
   refine jcdZ (.rd 0 (.rd 2 (.rd 3 (.rd 4 (.rd 5 (.rd 7 (.rd 8 (.two 1 (.two 6 (.one 9 (.one 10 (.rd 11 (.rd 12 (.one 13 .done))))) 9 (.one 6 (.one 10 (.rd 11 (.rd 12 (.one 13 .done)))))) 9 (.one 1 (.one 6 (.one 10 (.rd 11 (.rd 12 (.one 13 .done)))))))))))))) ?_;refine jU 6000000050000000100000009000000400000400000 ?_;refine jzq jrdr ?_;refine jztwo ?_ ?_
   ·refine jze (jebl 0 1 zr3 fun p2=>?_)
    refine jztwo ?_ ?_
    ·refine jzm (m_appendC rowC_in (l:=[]) rfl rfl rfl rfl (Nat.zero_le _) (fun j hj=>absurd hj (Nat.not_lt_zero j)) (src_rs rfl) rfl (fun j hj=>by simp only [Nat.div_one];exact cZ) Tryz.underlying137 nu137 sz3 zr3 by3 rfl (by (simp;omega)) (by (simp;omega)) (fun j hj=>rfl) rfl rfl (Nat.mul_one _) (fun p3=>?_))
     refine jze (jebl 1 1 zr3 fun p4=>?_)
     refine jzm (m_appendC rowC_in (l2:=[v.n]) rfl rfl rfl rfl (by exact Nat.le_of_eq (Nat.mul_one _)) (fun _ _=>cZ) (src_os rfl (.inl rfl) (by decide)) rfl (hh_ints (.cons (cI (rfl)) .nil)) Tryz.underlying137 nu137 sz3 zr3 by3 rfl (by (simp;omega)) (by (simp;omega)) (leaf_flk rfl rfl) rfl rfl (Nat.mul_one _) (fun p5=>?_))
     refine jU 100000009000000 ?_
     refine jzm (jmst 1 ?_)
     refine jU 8700000 ?_
     first
      |(refine jE (freeze 3 rfl) ?_;refine jE (thawC 0 0 3 (rwB ⟨([]++s.tags++[v.n]),padR (s.tags.length+2) s.rows,s.e⟩ 2 g) (fun i _=>inF ([]++s.tags++[v.n]) i) rfl rfl cZ cZ (fun j hj h0=>by rcases j with _|_|_|j <;> first|omega|exact cZ) (by simp) (fun a c ha hc=>by obtain rfl:c=0:=(by omega);rw [Nat.zero_add,Nat.mul_one,Nat.add_zero];exact cZ)) ?_;dsimp only [List.set_cons_zero,List.set_cons_succ,List.cons_append,List.nil_append,List.length_cons,List.length_nil,Nat.zero_add,Nat.reduceAdd])
      |(refine jE (freeze 4 rfl) ?_;refine jE (thawC 0 0 4 (rwB ⟨([]++s.tags++[v.n]),padR (s.tags.length+2) s.rows,s.e⟩ 2 g) (fun i _=>inF ([]++s.tags++[v.n]) i) rfl rfl cZ cZ (fun j hj h0=>by rcases j with _|_|_|j <;> first|omega|exact cZ) (by simp) (fun a c ha hc=>by obtain rfl:c=0:=(by omega);rw [Nat.zero_add,Nat.mul_one,Nat.add_zero];exact cZ)) ?_;dsimp only [List.set_cons_zero,List.set_cons_succ,List.cons_append,List.nil_append,List.length_cons,List.length_nil,Nat.zero_add,Nat.reduceAdd])
     refine jcdB 10 (.rd 0 (.rd 1 (.rd 2 (.rd 3 (.rd 4 (.rd 5 (.rd 6 (.rd 7 (.rd 8 (.rd 9 .done)))))))))) ?_;refine jU 200001000090000050000701000080000005000070 ?_;refine jyq (jri (i:=([]++s.tags++[v.n]).length) (hz:=by (simp only [List.length_append,List.length_cons,List.length_nil];omega))) ?_;refine jyd ?_
     show ASeq _ _ _ _ _ _
     refine jqm (jmstF 1 (rowsF ((padR (s.tags.length+2) s.rows).set ([]++s.tags++[v.n]).length [])) ?_ ?_)
     ·exact (fun j hj=>rows_set (CEnt.nilS _ _) hj)
     refine jU 4005 ?_
     rw [show rdoS v s=⟨([]++s.tags++[v.n]),(padR (s.tags.length+2) s.rows).set (s.tags.length+1) [],s.e⟩ by unfold rdoS;rw [if_neg (by omega),if_pos (by omega)];unfold ropenS;rw [if_neg (by simp [madeM] at h86 ⊢;omega),if_neg (by omega)];rfl]
     exact end_closeRW (.inr rfl) n ⟨([]++s.tags++[v.n]),(padR (s.tags.length+2) s.rows).set (s.tags.length+1) [],s.e⟩ 2 (res_0 rfl) cZ rfl rfl rfl (by exact cZ) (by exact cO (by simp)) (by exact cZ) (by simp) (fun _ _=>by rw [hLl];exact cZ)
    ·refine jze (jebl 1 1 zr3 fun p3=>?_)
     refine jzm (m_appendC rowC_in (l:=[]) rfl rfl rfl rfl (Nat.zero_le _) (fun j hj=>absurd hj (Nat.not_lt_zero j)) (src_rs rfl) rfl (fun j hj=>by simp only [Nat.div_one];exact cZ) Tryz.underlying137 nu137 sz3 zr3 by3 rfl (by (simp;omega)) (by (simp;omega)) (fun j hj=>rfl) rfl rfl (Nat.mul_one _) (fun p4=>?_))
     refine jzm (m_appendC rowC_in (l2:=[v.n]) rfl rfl rfl rfl (by exact Nat.le_of_eq (Nat.mul_one _)) (fun _ _=>cZ) (src_os rfl (.inl rfl) (by decide)) rfl (hh_ints (.cons (cI (rfl)) .nil)) Tryz.underlying137 nu137 sz3 zr3 by3 rfl (by (simp;omega)) (by (simp;omega)) (leaf_flk rfl rfl) rfl rfl (Nat.mul_one _) (fun p5=>?_))
     refine jU 100000009000000 ?_
     refine jzm (jmst 1 ?_)
     refine jU 8700000 ?_
     first
      |(refine jE (freeze 3 rfl) ?_;refine jE (thawC 0 0 3 (rwB ⟨([]++s.tags++[v.n]),padR (s.tags.length+2) s.rows,s.e⟩ 2 g) (fun i _=>inF ([]++s.tags++[v.n]) i) rfl rfl cZ cZ (fun j hj h0=>by rcases j with _|_|_|j <;> first|omega|exact cZ) (by simp) (fun a c ha hc=>by obtain rfl:c=0:=(by omega);rw [Nat.zero_add,Nat.mul_one,Nat.add_zero];exact cZ)) ?_;dsimp only [List.set_cons_zero,List.set_cons_succ,List.cons_append,List.nil_append,List.length_cons,List.length_nil,Nat.zero_add,Nat.reduceAdd])
      |(refine jE (freeze 4 rfl) ?_;refine jE (thawC 0 0 4 (rwB ⟨([]++s.tags++[v.n]),padR (s.tags.length+2) s.rows,s.e⟩ 2 g) (fun i _=>inF ([]++s.tags++[v.n]) i) rfl rfl cZ cZ (fun j hj h0=>by rcases j with _|_|_|j <;> first|omega|exact cZ) (by simp) (fun a c ha hc=>by obtain rfl:c=0:=(by omega);rw [Nat.zero_add,Nat.mul_one,Nat.add_zero];exact cZ)) ?_;dsimp only [List.set_cons_zero,List.set_cons_succ,List.cons_append,List.nil_append,List.length_cons,List.length_nil,Nat.zero_add,Nat.reduceAdd])
     refine jcdB 10 (.rd 0 (.rd 1 (.rd 2 (.rd 3 (.rd 4 (.rd 5 (.rd 6 (.rd 7 (.rd 8 (.rd 9 .done)))))))))) ?_;refine jU 200001000090000050000701000080000005000070 ?_;refine jyq (jri (i:=([]++s.tags++[v.n]).length) (hz:=by (simp only [List.length_append,List.length_cons,List.length_nil];omega))) ?_;refine jyd ?_
     show ASeq _ _ _ _ _ _
     refine jqm (jmstF 1 (rowsF ((padR (s.tags.length+2) s.rows).set ([]++s.tags++[v.n]).length [])) ?_ ?_)
     ·exact (fun j hj=>rows_set (CEnt.nilS _ _) hj)
     refine jU 4005 ?_
     rw [show rdoS v s=⟨([]++s.tags++[v.n]),(padR (s.tags.length+2) s.rows).set (s.tags.length+1) [],s.e⟩ by unfold rdoS;rw [if_neg (by omega),if_pos (by omega)];unfold ropenS;rw [if_neg (by simp [madeM] at h86 ⊢;omega),if_neg (by omega)];rfl]
     exact end_closeRW (.inr rfl) n ⟨([]++s.tags++[v.n]),(padR (s.tags.length+2) s.rows).set (s.tags.length+1) [],s.e⟩ 2 (res_0 rfl) cZ rfl rfl rfl (by exact cZ) (by exact cO (by simp)) (by exact cZ) (by simp) (fun _ _=>by rw [hLl];exact cZ)
   ·refine jze (jebl 1 1 zr3 fun p2=>?_)
    refine jze (jebl 0 1 zr3 fun p3=>?_)
    refine jzm (m_appendC rowC_in (l:=[]) rfl rfl rfl rfl (Nat.zero_le _) (fun j hj=>absurd hj (Nat.not_lt_zero j)) (src_rs rfl) rfl (fun j hj=>by simp only [Nat.div_one];exact cZ) Tryz.underlying137 nu137 sz3 zr3 by3 rfl (by (simp;omega)) (by (simp;omega)) (fun j hj=>rfl) rfl rfl (Nat.mul_one _) (fun p4=>?_))
    refine jzm (m_appendC rowC_in (l2:=[v.n]) rfl rfl rfl rfl (by exact Nat.le_of_eq (Nat.mul_one _)) (fun _ _=>cZ) (src_os rfl (.inl rfl) (by decide)) rfl (hh_ints (.cons (cI (rfl)) .nil)) Tryz.underlying137 nu137 sz3 zr3 by3 rfl (by (simp;omega)) (by (simp;omega)) (leaf_flk rfl rfl) rfl rfl (Nat.mul_one _) (fun p5=>?_))
    refine jU 100000009000000 ?_
    refine jzm (jmst 1 ?_)
    refine jU 8700000 ?_
    first
     |(refine jE (freeze 3 rfl) ?_;refine jE (thawC 0 0 3 (rwB ⟨([]++s.tags++[v.n]),padR (s.tags.length+2) s.rows,s.e⟩ 2 g) (fun i _=>inF ([]++s.tags++[v.n]) i) rfl rfl cZ cZ (fun j hj h0=>by rcases j with _|_|_|j <;> first|omega|exact cZ) (by simp) (fun a c ha hc=>by obtain rfl:c=0:=(by omega);rw [Nat.zero_add,Nat.mul_one,Nat.add_zero];exact cZ)) ?_;dsimp only [List.set_cons_zero,List.set_cons_succ,List.cons_append,List.nil_append,List.length_cons,List.length_nil,Nat.zero_add,Nat.reduceAdd])
     |(refine jE (freeze 4 rfl) ?_;refine jE (thawC 0 0 4 (rwB ⟨([]++s.tags++[v.n]),padR (s.tags.length+2) s.rows,s.e⟩ 2 g) (fun i _=>inF ([]++s.tags++[v.n]) i) rfl rfl cZ cZ (fun j hj h0=>by rcases j with _|_|_|j <;> first|omega|exact cZ) (by simp) (fun a c ha hc=>by obtain rfl:c=0:=(by omega);rw [Nat.zero_add,Nat.mul_one,Nat.add_zero];exact cZ)) ?_;dsimp only [List.set_cons_zero,List.set_cons_succ,List.cons_append,List.nil_append,List.length_cons,List.length_nil,Nat.zero_add,Nat.reduceAdd])
    refine jcdB 10 (.rd 0 (.rd 1 (.rd 2 (.rd 3 (.rd 4 (.rd 5 (.rd 6 (.rd 7 (.rd 8 (.rd 9 .done)))))))))) ?_;refine jU 200001000090000050000701000080000005000070 ?_;refine jyq (jri (i:=([]++s.tags++[v.n]).length) (hz:=by (simp only [List.length_append,List.length_cons,List.length_nil];omega))) ?_;refine jyd ?_
    show ASeq _ _ _ _ _ _
    refine jqm (jmstF 1 (rowsF ((padR (s.tags.length+2) s.rows).set ([]++s.tags++[v.n]).length [])) ?_ ?_)
    ·exact (fun j hj=>rows_set (CEnt.nilS _ _) hj)
    refine jU 4005 ?_
    rw [show rdoS v s=⟨([]++s.tags++[v.n]),(padR (s.tags.length+2) s.rows).set (s.tags.length+1) [],s.e⟩ by unfold rdoS;rw [if_neg (by omega),if_pos (by omega)];unfold ropenS;rw [if_neg (by simp [madeM] at h86 ⊢;omega),if_neg (by omega)];rfl]
    exact end_closeRW (.inr rfl) n ⟨([]++s.tags++[v.n]),(padR (s.tags.length+2) s.rows).set (s.tags.length+1) [],s.e⟩ 2 (res_0 rfl) cZ rfl rfl rfl (by exact cZ) (by exact cO (by simp)) (by exact cZ) (by simp) (fun _ _=>by rw [hLl];exact cZ)
 refine jU 5126 ?_;refine jcc (fun h97=>?_) fun h97=>?_
 rotate_left
 ·refine jU 5126 ?_;refine jcc (fun h114=>?_) fun h114=>?_
  ·refine jU 6050000006 ?_
   refine jqe (jecP (rcheck_ac v.b hvb) ?_)
   refine jU 521675119009001 ?_;refine jcc (fun h116=>?_) fun h116=>?_
   ·refine jU 100040116 ?_
    refine jqm (jmstF 1 (rwB ⟨s.tags,s.rows,(depthM v.b).2⟩ 2 gr) ?_ ?_)
    ·exact (fun j hj=>by rcases j with _|_|_|j <;> exact cZ)
    refine jU 5000300070005 ?_
    rw [show rdoS v s=⟨s.tags,s.rows,(depthM v.b).2⟩ by unfold rdoS;rw [if_neg (by omega),if_neg (by omega),if_neg (by omega),if_pos (by omega),if_pos (by omega)]]
    exact end_closeRW (.inl rfl) n ⟨s.tags,s.rows,(depthM v.b).2⟩ 2 (res_0 rfl) cZ rfl rfl rfl (by exact cZ) (by exact cO rfl) (by exact cZ) (Nat.le_refl _) (fun _ _=>by exact cZ)
   refine jU 1200810 ?_
   refine jqe (jebl 0 1 zr5 fun p2=>?_)
   refine jU 605000000 ?_
   refine jqm (m_appendB (l:=[]) rfl rfl rfl (Nat.zero_le _) (fun j hj=>absurd hj (Nat.not_lt_zero j)) (src_rs rfl) rfl (fun j hj=>by simp only [Nat.div_one];exact cZ) Tryz.underlying22 nu22 sz5 zr5 by5 rfl (by (simp;omega)) (fun j hj=>rfl) rfl rfl (fun p3=>?_))
   refine seq_ent (freeze 3 rfl) ?_;refine seq_ent (thawB 181 ([]++v.b) rfl rfl rfl rfl) ?_;refine seq_ent (closeRW n s 0 2 rfl rfl rfl cZ (cO rfl) cZ (Nat.le_refl _) (fun _ _=>cZ)) ?_
   refine jqm (jmcH 0 (radd08_ac n s ([]++v.b) hs.ok) ?_)
   rintro _ _ ⟨rfl,rfl⟩
   refine ⟨_,_,rfl,cZ,?_⟩
   refine jU 4005 ?_
   rw [show rdoS v s=raddS ([]++v.b) s by unfold rdoS;rw [if_neg (by omega),if_neg (by omega),if_neg (by omega),if_pos (by omega),if_neg (by omega)];rfl]
   exact end_own (.inr rfl) _ [_] [0] (by decide) rfl (res_0 rfl) ⟨rfl,rfl⟩
  refine jcr ?_;refine jq (jrdrA 5) ?_
  refine jqe (jecS (hB (by omega) (by omega) (by omega)) ?_)
  rintro _ _ ⟨⟨bb,rfl,hbb⟩,rfl⟩
  refine jU 5216751119009009001 ?_;refine jcc (fun h123=>?_) fun h123=>?_
  ·refine jU 100040116 ?_
   refine jqm (jmstF 1 (rwB ⟨s.tags,s.rows,(bodyV v).2.2⟩ 2 gr) ?_ ?_)
   ·exact (fun j hj=>by rcases j with _|_|_|j <;> exact cZ)
   refine jU 5000300070005 ?_
   rw [show rdoS v s=⟨s.tags,s.rows,(bodyV v).2.2⟩ by unfold rdoS;rw [if_neg (by omega),if_neg (by omega),if_neg (by omega),if_neg (by omega),if_pos (by omega)]]
   exact end_closeRW (.inl rfl) n ⟨s.tags,s.rows,(bodyV v).2.2⟩ 2 (res_0 rfl) cZ rfl rfl rfl (by exact cZ) (by exact cO rfl) (by exact cZ) (Nat.le_refl _) (fun _ _=>by exact cZ)
  refine jU 810 ?_
  have hb0:bb=(bodyV v).2.1:=hbb (by omega)
  subst hb0
  refine jE (closeRW n s 0 2 rfl rfl rfl cZ (cO rfl) cZ (Nat.le_refl _) (fun _ _=>cZ)) ?_
  dsimp only [List.set_cons_zero,List.set_cons_succ,List.cons_append,List.nil_append,List.length_cons,List.length_nil,Nat.zero_add,Nat.reduceAdd]
  refine jU 111200 ?_
  refine jqm (jmcH 0 (rput08_ac n s (bodyV v).1 (bodyV v).2.1 hs.ok (body_tag v) (bodyV_len hv)) ?_)
  rintro _ _ ⟨rfl,rfl⟩
  refine ⟨_,_,rfl,cZ,?_⟩
  refine jU 4005 ?_
  rw [show rdoS v s=rputS (bodyV v).1 (bodyV v).2.1 s by unfold rdoS;rw [if_neg (by omega),if_neg (by omega),if_neg (by omega),if_neg (by omega),if_neg (by omega)]]
  exact end_own (.inr rfl) _ [_] [0] (by decide) rfl (res_0 rfl) ⟨rfl,rfl⟩
 refine jU 5216751350904016 ?_;refine jcc (fun h99=>?_) fun h99=>?_
 ·refine jU 10004016 ?_
  refine jqm (jmstF 1 (rwB ⟨s.tags,s.rows,24⟩ 2 gr) ?_ ?_)
  ·exact (fun j hj=>by rcases j with _|_|_|j <;> exact cZ)
  refine jU 5000300070005 ?_
  rw [show rdoS v s=⟨s.tags,s.rows,24⟩ by unfold rdoS;rw [if_neg (by omega),if_neg (by omega),if_pos (by omega)];unfold rcloseS;rw [if_pos (by omega)]]
  exact end_closeRW (.inl rfl) n ⟨s.tags,s.rows,24⟩ 2 (res_0 rfl) cZ rfl rfl rfl (by exact cZ) (by exact cO rfl) (by exact cZ) (Nat.le_refl _) (fun _ _=>by exact cZ)
 refine jU 810 ?_
 have hlt:=hs.lt (by omega)
 have hmem:(s.tags.getD (s.tags.length-1) 0) ∈ s.tags:=getD_mem' 0 (by omega)
 have htg:=hs.tag _ hmem
 have hll:=lsF_len (s.tags.getD (s.tags.length-1) 0) (s.rows.getD s.tags.length [])
 refine jU 9150904016751507001501004016 ?_;refine jq (jri (i:=(s.tags.length-1)) (hz:=by omega)) ?_;refine jU 5260 ?_;refine jcc (fun h104=>?_) fun h104=>?_
 rotate_left
 ·refine jU 810 ?_
  first
   | refine jE (weaken 5 (lbC (lsF (s.tags.getD (s.tags.length-1) 0) (s.rows.getD s.tags.length []))) (by unfold lsF;rw [if_pos h104];exact cZ)) ?_
   | refine jE (weaken 5 (lbC (lsF (s.tags.getD (s.tags.length-1) 0) (s.rows.getD s.tags.length []))) (by unfold lsF;rw [if_neg h104];exact cZ)) ?_
  refine jcr ?_
  refine jqe (jebl 0 1 zr5 fun p2=>?_)
  refine jU 2051316751 ?_;refine l_loop (α:=Nat×Option Nat) [6,8,133,134,135,136,137,138,139,140] (fun (i,g)=>[(6,.os 3 g 0 (((lsF (s.tags.getD (s.tags.length-1) 0) (s.rows.getD s.tags.length [])).take i).flatten).length 1),(133,.c (.int .i64 (i:Nat)))]) (fun (i,g)=>[(some n,.blk 3 (rwB s 2 gr)),(p1,.frz 5 (fl [.c (.int .i64 v.kind),.c (.int .i64 v.n),.c (.bool v.is),bsC v.b,strC v.t])),(gr,.blk s.rows.length (rowsF s.rows)),(g,.blk (((lsF (s.tags.getD (s.tags.length-1) 0) (s.rows.getD s.tags.length [])).take i).flatten).length (byF ((lsF (s.tags.getD (s.tags.length-1) 0) (s.rows.getD s.tags.length [])).take i).flatten))]) (fun i=>i.1≤(lsF (s.tags.getD (s.tags.length-1) 0) (s.rows.getD s.tags.length [])).length) (fun i=>(lsF (s.tags.getD (s.tags.length-1) 0) (s.rows.getD s.tags.length [])).length-i.1) ((0,p2)) ?_ (fun _=>rfl) ?_ ?_ ?_
  ·exact Nat.zero_le _
  ·exact .cons (cO rfl) (.cons cZ .nil)
  ·exact .same (.same (.same (.blk rfl (fun j hj=>absurd hj (Nat.not_lt_zero j)) .nil)))
  ·rintro ⟨i,g⟩ (hi:i≤(lsF (s.tags.getD (s.tags.length-1) 0) (s.rows.getD s.tags.length [])).length)
   refine jU 7526 ?_;refine jcc (fun h108=>?_) fun h108=>?_
   ·refine jU 51607006207810 ?_
    have hf1:=sumL_take (ls:=(lsF (s.tags.getD (s.tags.length-1) 0) (s.rows.getD s.tags.length []))) (i:=i) (by omega)
    have hf2:=sumL_le (lsF (s.tags.getD (s.tags.length-1) 0) (s.rows.getD s.tags.length [])) (i+1)
    have hf3:=flat_len ((lsF (s.tags.getD (s.tags.length-1) 0) (s.rows.getD s.tags.length [])).take i)
    refine jU 11200 ?_
    refine jqm (m_appendB rfl rfl rfl (Nat.le_refl _) (fun _ _=>cZ) (src_rs rfl) rfl (fun j hj=>by simp only [Nat.div_one];exact cZ) Tryz.underlying22 nu22 sz5 zr5 by5 rfl (by omega) (fun j hj=>rfl) rfl rfl (fun p3=>?_))
    refine jU 8519200840051 ?_
    refine jlend ((i+1,p3)) ?_ ?_ (h5:=?_) (h7:=?_)
    ·show i+1≤(lsF (s.tags.getD (s.tags.length-1) 0) (s.rows.getD s.tags.length [])).length;omega
    ·show (lsF (s.tags.getD (s.tags.length-1) 0) (s.rows.getD s.tags.length [])).length-(i+1)<(lsF (s.tags.getD (s.tags.length-1) 0) (s.rows.getD s.tags.length [])).length-i;omega
    ·simp only [flat_take (show i<(lsF (s.tags.getD (s.tags.length-1) 0) (s.rows.getD s.tags.length [])).length by omega)]
     exact .cons (cO rfl) (.cons (cI (by omega)) .nil)
    ·simp only [flat_take (show i<(lsF (s.tags.getD (s.tags.length-1) 0) (s.rows.getD s.tags.length [])).length by omega)]
     exact .same (.same (.same (.same .nil)))
   refine jU 84000200020006000 ?_
   have hiE:i=(lsF (s.tags.getD (s.tags.length-1) 0) (s.rows.getD s.tags.length [])).length:=by omega
   subst hiE
   dsimp only
   rw [List.take_length]
   refine jU 9150904016 ?_;refine jq (jri (i:=(s.tags.length-1)) (hz:=by omega)) ?_;refine jU 915090401165160 ?_;refine jq (jrsr (hl:=(bd_none _ _)) (hu:=(bd_some rfl (show _=(((s.tags.length-1):Nat):Int) by omega)))) ?_;refine jU 9040 ?_
   refine jqm (jmstF 1 (rwB ⟨s.tags.take (s.tags.length-1),s.rows,s.e⟩ 2 gr) ?_ ?_)
   ·exact (fun j hj=>by rcases j with _|_|_|j <;> first|exact CEnt.rs (by rw [List.length_take];omega) (fun i q hi hq=>CEnt.of_eq (by rw [Nat.zero_add];exact in_take hi))|exact cZ)
   refine jU 5 ?_;refine jE (freeze 3 rfl) ?_;refine jE (thawB 6 ((lsF (s.tags.getD (s.tags.length-1) 0) (s.rows.getD s.tags.length [])).flatten) rfl rfl rfl rfl) ?_;refine jE (closeRW n ⟨s.tags.take (s.tags.length-1),s.rows,s.e⟩ 0 2 rfl rfl rfl cZ (cO rfl) cZ (Nat.le_refl _) (fun _ _=>cZ)) ?_
   dsimp only [List.set_cons_zero,List.set_cons_succ,List.cons_append,List.nil_append,List.length_cons,List.length_nil,Nat.zero_add,Nat.reduceAdd]
   refine jU 111200 ?_
   refine jqm (jmcH 0 (rput08_ac n ⟨s.tags.take (s.tags.length-1),s.rows,s.e⟩ (s.tags.getD (s.tags.length-1) 0) ((lsF (s.tags.getD (s.tags.length-1) 0) (s.rows.getD s.tags.length [])).flatten) (okRD_tail hs) htg (by rw [flat_len];omega)) ?_)
   rintro _ _ ⟨rfl,rfl⟩
   refine ⟨_,_,rfl,cZ,?_⟩
   refine jU 4005 ?_
   rw [show rdoS v s=rputS (s.tags.getD (s.tags.length-1) 0) ((lsF (s.tags.getD (s.tags.length-1) 0) (s.rows.getD s.tags.length [])).flatten) ⟨s.tags.take (s.tags.length-1),s.rows,s.e⟩ by unfold rdoS;rw [if_neg (by omega),if_neg (by omega),if_pos (by omega)];unfold rcloseS;rw [if_neg (by omega),lsF_body]]
   exact end_own (.inr rfl) _ [_] [0] (by decide) rfl (res_0 rfl) ⟨rfl,rfl⟩
 refine jU 1200 ?_
 refine jqe (jecP (rsorted07_ac (s.rows.getD s.tags.length []) hkk) ?_)
 refine jU 851 ?_
 first
  | refine jE (weaken 5 (lbC (lsF (s.tags.getD (s.tags.length-1) 0) (s.rows.getD s.tags.length []))) (by unfold lsF;rw [if_pos h104];exact cZ)) ?_
  | refine jE (weaken 5 (lbC (lsF (s.tags.getD (s.tags.length-1) 0) (s.rows.getD s.tags.length []))) (by unfold lsF;rw [if_neg h104];exact cZ)) ?_
 refine jcr ?_
 refine jqe (jebl 0 1 zr5 fun p2=>?_)
 refine jU 2051316751 ?_;refine l_loop (α:=Nat×Option Nat) [6,8,133,134,135,136,137,138,139,140] (fun (i,g)=>[(6,.os 3 g 0 (((lsF (s.tags.getD (s.tags.length-1) 0) (s.rows.getD s.tags.length [])).take i).flatten).length 1),(133,.c (.int .i64 (i:Nat)))]) (fun (i,g)=>[(some n,.blk 3 (rwB s 2 gr)),(p1,.frz 5 (fl [.c (.int .i64 v.kind),.c (.int .i64 v.n),.c (.bool v.is),bsC v.b,strC v.t])),(gr,.blk s.rows.length (rowsF s.rows)),(g,.blk (((lsF (s.tags.getD (s.tags.length-1) 0) (s.rows.getD s.tags.length [])).take i).flatten).length (byF ((lsF (s.tags.getD (s.tags.length-1) 0) (s.rows.getD s.tags.length [])).take i).flatten))]) (fun i=>i.1≤(lsF (s.tags.getD (s.tags.length-1) 0) (s.rows.getD s.tags.length [])).length) (fun i=>(lsF (s.tags.getD (s.tags.length-1) 0) (s.rows.getD s.tags.length [])).length-i.1) ((0,p2)) ?_ (fun _=>rfl) ?_ ?_ ?_
 ·exact Nat.zero_le _
 ·exact .cons (cO rfl) (.cons cZ .nil)
 ·exact .same (.same (.same (.blk rfl (fun j hj=>absurd hj (Nat.not_lt_zero j)) .nil)))
 ·rintro ⟨i,g⟩ (hi:i≤(lsF (s.tags.getD (s.tags.length-1) 0) (s.rows.getD s.tags.length [])).length)
  refine jU 7526 ?_;refine jcc (fun h108=>?_) fun h108=>?_
  ·refine jU 51607006207810 ?_
   have hf1:=sumL_take (ls:=(lsF (s.tags.getD (s.tags.length-1) 0) (s.rows.getD s.tags.length []))) (i:=i) (by omega)
   have hf2:=sumL_le (lsF (s.tags.getD (s.tags.length-1) 0) (s.rows.getD s.tags.length [])) (i+1)
   have hf3:=flat_len ((lsF (s.tags.getD (s.tags.length-1) 0) (s.rows.getD s.tags.length [])).take i)
   refine jU 11200 ?_
   refine jqm (m_appendB rfl rfl rfl (Nat.le_refl _) (fun _ _=>cZ) (src_rs rfl) rfl (fun j hj=>by simp only [Nat.div_one];exact cZ) Tryz.underlying22 nu22 sz5 zr5 by5 rfl (by omega) (fun j hj=>rfl) rfl rfl (fun p3=>?_))
   refine jU 8519200840051 ?_
   refine jlend ((i+1,p3)) ?_ ?_ (h5:=?_) (h7:=?_)
   ·show i+1≤(lsF (s.tags.getD (s.tags.length-1) 0) (s.rows.getD s.tags.length [])).length;omega
   ·show (lsF (s.tags.getD (s.tags.length-1) 0) (s.rows.getD s.tags.length [])).length-(i+1)<(lsF (s.tags.getD (s.tags.length-1) 0) (s.rows.getD s.tags.length [])).length-i;omega
   ·simp only [flat_take (show i<(lsF (s.tags.getD (s.tags.length-1) 0) (s.rows.getD s.tags.length [])).length by omega)]
    exact .cons (cO rfl) (.cons (cI (by omega)) .nil)
   ·simp only [flat_take (show i<(lsF (s.tags.getD (s.tags.length-1) 0) (s.rows.getD s.tags.length [])).length by omega)]
    exact .same (.same (.same (.same .nil)))
  refine jU 84000200020006000 ?_
  have hiE:i=(lsF (s.tags.getD (s.tags.length-1) 0) (s.rows.getD s.tags.length [])).length:=by omega
  subst hiE
  dsimp only
  rw [List.take_length]
  refine jU 9150904016 ?_;refine jq (jri (i:=(s.tags.length-1)) (hz:=by omega)) ?_;refine jU 915090401165160 ?_;refine jq (jrsr (hl:=(bd_none _ _)) (hu:=(bd_some rfl (show _=(((s.tags.length-1):Nat):Int) by omega)))) ?_;refine jU 9040 ?_
  refine jqm (jmstF 1 (rwB ⟨s.tags.take (s.tags.length-1),s.rows,s.e⟩ 2 gr) ?_ ?_)
  ·exact (fun j hj=>by rcases j with _|_|_|j <;> first|exact CEnt.rs (by rw [List.length_take];omega) (fun i q hi hq=>CEnt.of_eq (by rw [Nat.zero_add];exact in_take hi))|exact cZ)
  refine jU 5 ?_;refine jE (freeze 3 rfl) ?_;refine jE (thawB 6 ((lsF (s.tags.getD (s.tags.length-1) 0) (s.rows.getD s.tags.length [])).flatten) rfl rfl rfl rfl) ?_;refine jE (closeRW n ⟨s.tags.take (s.tags.length-1),s.rows,s.e⟩ 0 2 rfl rfl rfl cZ (cO rfl) cZ (Nat.le_refl _) (fun _ _=>cZ)) ?_
  dsimp only [List.set_cons_zero,List.set_cons_succ,List.cons_append,List.nil_append,List.length_cons,List.length_nil,Nat.zero_add,Nat.reduceAdd]
  refine jU 111200 ?_
  refine jqm (jmcH 0 (rput08_ac n ⟨s.tags.take (s.tags.length-1),s.rows,s.e⟩ (s.tags.getD (s.tags.length-1) 0) ((lsF (s.tags.getD (s.tags.length-1) 0) (s.rows.getD s.tags.length [])).flatten) (okRD_tail hs) htg (by rw [flat_len];omega)) ?_)
  rintro _ _ ⟨rfl,rfl⟩
  refine ⟨_,_,rfl,cZ,?_⟩
  refine jU 4005 ?_
  rw [show rdoS v s=rputS (s.tags.getD (s.tags.length-1) 0) ((lsF (s.tags.getD (s.tags.length-1) 0) (s.rows.getD s.tags.length [])).flatten) ⟨s.tags.take (s.tags.length-1),s.rows,s.e⟩ by unfold rdoS;rw [if_neg (by omega),if_neg (by omega),if_pos (by omega)];unfold rcloseS;rw [if_neg (by omega),lsF_body]]
  exact end_own (.inr rfl) _ [_] [0] (by decide) rfl (res_0 rfl) ⟨rfl,rfl⟩
end
section
open Go.RowKit Cal
structure SmallV (v:VV):Prop where
 n:-9223372036854775808≤v.n∧v.n≤9223372036854775807
 b:v.b.length≤300
 t:v.t.length≤300
theorem SmallV.ok {v:VV} (h:SmallV v):OkV v:=⟨h.n,by have:=h.b;omega,by have:=h.t;omega⟩
def frW (fr:List (Int×List (List UInt8))):Nat:=(fr.map fun x=>sumL x.2+6).sum
def wtW (s:W8):Nat:=s.d.length+frW s.fr
theorem frW_cons (x:Int×List (List UInt8)) (fr:List (Int×List (List UInt8))):frW (x::fr)=sumL x.2+6+frW fr:=by simp [frW]
theorem sumL_snoc (l:List (List UInt8)) (b:List UInt8):sumL (l++[b])=sumL l+b.length:=by rw [sumL_app];simp [sumL]
theorem putL_len (tag:Int) (b:List UInt8):(putL tag b).length≤b.length+6:=by
 unfold putL
 have:=lenL_bd b.length
 simp only [List.length_cons,List.length_append]
 omega
theorem wt_add (b:List UInt8) (s:W8):wtW (addW b s)=wtW s+b.length:=by
 obtain ⟨fr,d,k⟩:=s
 cases fr with
 | nil=>simp [wtW,addW,frW]
 | cons x fr =>
  show d.length+frW ((x.1,x.2++[b])::fr)=d.length+frW (x::fr)+_
  rw [frW_cons,frW_cons]
  show d.length+(sumL (x.2++[b])+6+frW fr)=_
  rw [sumL_snoc]
  omega
theorem wt_fail (e:Nat) (s:W8):wtW (failW e s)=wtW s:=by unfold failW;split <;> rfl
theorem wt_put (tag:Int) (b:List UInt8) (e:Nat) (s:W8):wtW (putW tag b e s)≤wtW s+b.length+6:=by
 unfold putW
 split
 ·rw [wt_fail];omega
 ·split
  ·show s.d.length+frW s.fr≤_;unfold wtW;omega
  ·rw [wt_add];have:=putL_len tag b;omega
theorem bodyV_small {v:VV} (h:SmallV v):(bodyV v).2.1.length≤300:=by
 have h1:=h.b
 have h2:=h.t
 have h3:=(putN_len v.n h.n.1 h.n.2).2
 have h4:=put_len v.t
 unfold bodyV
 split
 ·show (putN v.n).length≤_;omega
 ·split
  ·show (putN v.n).length≤_;omega
  ·split
   ·show [if v.is then (255:UInt8) else 0].length≤_;simp
   ·split
    ·exact h1
    ·split
     ·show (if askedM v.t v.n=0 then v.t else []).length≤_;split <;> first|omega|simp
     ·split
      ·show (putM v.t).length≤_;omega
      ·split
       ·show (if inT v.n then bodyL (ofM v.n) else []).length≤_
        split
        ·exact Nat.le_trans (Nat.le_of_eq (show (bodyL (ofM v.n)).length=15 from rfl)) (by decide)
        ·simp
       ·show (bitsL v.n).length≤_
        unfold bitsL
        split
        ·simp
        ·rw [flags_len (by omega)]
         have:=(bl_is (m:=v.n.toNat) (by omega)).2
         omega
theorem wt_do {v:VV} (h:SmallV v) (s:W8):wtW (doW v s)≤wtW s+400:=by
 have hb:=h.b
 unfold doW
 split
 ·unfold openW
  split
  ·omega
  ·split
   ·show s.d.length+frW s.fr≤_;unfold wtW;omega
   ·split
    ·show s.d.length+frW s.fr≤_;unfold wtW;omega
    ·show s.d.length+frW _≤_
     rw [frW_cons]
     unfold wtW
     simp [sumL];omega
 ·split
  ·unfold closeV
   split
   ·omega
   ·obtain ⟨fr,d,k⟩:=s
    cases fr with
    | nil=>show d.length+frW []≤d.length+frW []+_;omega
    | cons x fr =>
     have h1:=wt_put x.1 (bodyF x) 0 ⟨fr,d,k⟩
     rw [bodyF_len] at h1
     refine Nat.le_trans h1 ?_
     show d.length+frW fr+_+_≤d.length+frW (x::fr)+_
     rw [frW_cons]
     omega
  ·split
   ·unfold rawW
    split
    ·rw [wt_add];omega
    ·rw [wt_fail];omega
   ·have h1:=wt_put (bodyV v).1 (bodyV v).2.1 (bodyV v).2.2 s
    have h2:=bodyV_small h
    omega
theorem pad_mem {m:Nat} {r:List (List (List UInt8))} {x:List (List UInt8)} (h:x ∈ padR m r):x ∈ r∨x=[]:=by
 unfold padR at h
 rcases List.mem_append.1 h with h|h
 ·exact .inl h
 ·exact .inr (List.eq_of_mem_replicate h)
theorem at_mem (r:List (List (List UInt8))) (j:Nat):r.getD j [] ∈ r∨r.getD j []=[]:=by
 rw [List.getD_eq_getElem?_getD]
 cases e:r[j]? with
 | none=>exact .inr rfl
 | some x=>exact .inl (List.mem_of_getElem? e)
def Grown (r r':R8):Prop:=(r'.rows.length≤max r.rows.length (r'.tags.length+1))∧∀ x ∈ r'.rows,x ∈ r.rows∨x=[]∨∃ y b,(y ∈ r.rows∨y=[])∧x=y++[b]∧x=r'.rows.getD r'.tags.length []
theorem grown_rows {r r':R8} (h:r'.rows=r.rows):Grown r r':=⟨by rw [h];omega,fun x hx=>.inl (h ▸ hx)⟩
theorem grown_add (b:List UInt8) (r:R8):Grown r (raddS b r):=by
 have hp:r.tags.length<(padR (r.tags.length+1) r.rows).length:=by rw [pad_len];omega
 refine ⟨?_,fun x hx=>?_⟩
 ·show (List.set _ _ _).length≤max _ (r.tags.length+1)
  rw [List.length_set,pad_len]
  omega
 ·rcases List.mem_or_eq_of_mem_set hx with h|h
  ·rcases pad_mem h with h|h
   ·exact .inl h
   ·exact .inr (.inl h)
  ·refine .inr (.inr ⟨_,b,?_,h,?_⟩)
   ·rw [pad_get];exact at_mem _ _
   ·show x=List.getD (List.set _ _ _) r.tags.length []
    rw [set_get _ _ _ _ hp,if_pos rfl]
    exact h
theorem grown_put (t:Int) (b:List UInt8) (r:R8):Grown r (rputS t b r):=by
 unfold rputS
 split
 ·exact grown_rows rfl
 ·exact grown_add _ r
theorem grown_do (v:VV) (r:R8):Grown r (rdoS v r):=by
 unfold rdoS
 split
 ·exact grown_rows rfl
 ·split
  ·unfold ropenS
   split
   ·exact grown_rows rfl
   ·split
    ·exact grown_rows rfl
    ·refine ⟨?_,fun x hx=>?_⟩
     ·show (List.set _ _ _).length≤max _ ((r.tags++[v.n]).length+1)
      rw [List.length_set,pad_len,List.length_append,List.length_singleton]
      omega
     ·rcases List.mem_or_eq_of_mem_set hx with h|h
      ·rcases pad_mem h with h|h
       ·exact .inl h
       ·exact .inr (.inl h)
      ·exact .inr (.inl h)
  ·split
   ·unfold rcloseS
    split
    ·exact grown_rows rfl
    ·exact grown_put _ _ ⟨_,r.rows,r.e⟩
   ·split
    ·split
     ·exact grown_rows rfl
     ·exact grown_add _ r
    ·split
     ·exact grown_rows rfl
     ·exact grown_put _ _ r
theorem frW_mem {fr:List (Int×List (List UInt8))} {x:Int×List (List UInt8)} (h:x ∈ fr):sumL x.2≤frW fr:=by
 induction fr with
 | nil=>cases h
 | cons y fr ih =>
  rw [frW_cons]
  rcases List.mem_cons.1 h with rfl|h
  ·omega
  ·have:=ih h;omega
theorem active_sum {r:R8} {s:W8} (h:Same8 r s):sumL (r.rows.getD r.tags.length [])≤wtW s:=by
 have hl:r.tags.length=s.fr.length:=by rw [h.tags];simp
 obtain ⟨fr,d,k⟩:=s
 cases fr with
 | nil =>
  rw [hl]
  show sumL (r.rows.getD 0 [])≤_
  rw [← flat_len,h.row0]
  unfold wtW
  omega
 | cons x fr =>
  have hr:=h.row fr.length (by simp)
  rw [hl]
  show sumL (r.rows.getD (fr.length+1) [])≤_
  rw [hr]
  have e:((x::fr).map Prod.snd).reverse.getD fr.length []=x.2:=by simp [List.getD_eq_getElem?_getD]
  show sumL (((x::fr).map Prod.snd).reverse.getD fr.length [])≤_
  rw [e]
  have:=frW_mem (fr:=x::fr) (x:=x) List.mem_cons_self
  unfold wtW
  show _≤d.length+frW (x::fr)
  omega
structure Inv8 (i:Nat) (r:R8) (s:W8):Prop where
 same:Same8 r s
 w:wtW s≤400 * i
 rows:∀ x ∈ r.rows,x.length≤i∧sumL x≤400 * i
 n:r.rows.length≤18
theorem inv_zero:Inv8 0 ⟨[],[],0⟩ ⟨[],[],0⟩:=⟨same_zero,by decide,fun _ h=>(by cases h),by decide⟩
theorem inv_do {i:Nat} {r:R8} {s:W8} (h:Inv8 i r s) {v:VV} (hv:SmallV v):Inv8 (i+1) (rdoS v r) (doW v s):=by
 have hs:=same_do h.same v
 have hw:=wt_do hv s
 have hg:=grown_do v r
 have h0:=h.w
 have hl:(rdoS v r).tags.length≤16:=by rw [hs.tags];simpa using hs.lim
 refine ⟨hs,by omega,fun x hx=>?_,?_⟩
 ·rcases hg.2 x hx with h1|h1|⟨y,b,h1,h2,h3⟩
  ·have:=h.rows x h1;omega
  ·subst h1;simp [sumL]
  ·have ha:=active_sum hs
   rw [← h3] at ha
   refine ⟨?_,by omega⟩
   rw [h2,List.length_append,List.length_singleton]
   rcases h1 with h1|h1
   ·have:=h.rows y h1;omega
   ·subst h1;simp
 ·have:=hg.1
  have:=h.n
  omega
theorem inv_fail {i:Nat} {r:R8} {s:W8} (h:Inv8 i r s) (e:Nat):Inv8 i ⟨r.tags,r.rows,if r.e=0 then e else r.e⟩ (failW e s):=by
 have hs:=h.same
 refine ⟨?_,by rw [wt_fail];exact h.w,h.rows,h.n⟩
 unfold failW
 rw [hs.e]
 split
 ·exact ⟨hs.tags,rfl,hs.row0,hs.row,hs.len,hs.known,hs.lim⟩
 ·exact ⟨hs.tags,rfl,hs.row0,hs.row,hs.len,hs.known,hs.lim⟩
theorem inv_okW {i:Nat} {r:R8} {s:W8} (h:Inv8 i r s) (hi:i≤1000):OkW s:=by
 have hw:=h.w
 refine ⟨h.same.lim,fun x hx=>?_,by unfold wtW at hw;omega⟩
 obtain ⟨j,hj⟩:=List.mem_iff_getElem?.1 hx
 have hjl:=(List.getElem?_eq_some_iff.1 hj).1
 have hr:=h.same.row (s.fr.length-1-j) (by omega)
 have e:(s.fr.map Prod.snd).reverse.getD (s.fr.length-1-j) []=x.2:=by
  rw [List.getD_eq_getElem?_getD,List.getElem?_reverse (by simp;omega)]
  simp only [List.length_map,List.getElem?_map]
  rw [show s.fr.length-1-(s.fr.length-1-j)=j by omega,hj]
  rfl
 rw [e] at hr
 have hs:=frW_mem hx
 unfold wtW at hw
 refine ⟨?_,by omega⟩
 rcases at_mem r.rows (s.fr.length-1-j+1) with h1|h1
 ·have:=(h.rows _ h1).1
  rw [hr] at this
  omega
 ·rw [hr] at h1
  rw [h1];simp
theorem inv_okR {i:Nat} {r:R8} {s:W8} (h:Inv8 i r s) (hi:i≤1000):OkRD r:=by
 have hl:r.tags.length=s.fr.length:=by rw [h.same.tags];simp
 have hlim:=h.same.lim
 have hn:=h.n
 refine ⟨⟨by omega,by omega,fun x hx=>by have:=h.rows x hx;omega⟩,fun j=>?_,fun x hx=>?_,h.same.len⟩
 ·rcases at_mem r.rows j with h1|h1
  ·have:=h.rows _ h1;omega
  ·rw [h1];simp [sumL]
 ·rw [h.same.tags] at hx
  obtain ⟨y,hy,rfl⟩:=List.mem_map.1 (List.mem_reverse.1 hx)
  exact known_bd (made_known (h.same.known y hy))
end
section
def rdE (l:List (List UInt8)) (k:Nat) (z:Nat×Option Nat):List (Option Nat×Res):=[(some z.1,.blk 2 (fl [.os 1 z.2 0 l.length 1,.err k])),(z.2,.blk l.length (lbF l))]
def rdO (n:Nat) (l:List (List UInt8)) (k:Nat):Option Nat×Res:=objE n (fun z:Nat×Option Nat=>z.1) (rdE l k)
section
variable {P:Program} {G:Gh} {s:AS} {c:Code} {R:Exit→AS→Prop} {n k:Nat} {l:List (List UInt8)}
theorem code_openR0 (i:Nat) (hi:s.H[i]?=some (rdO n l k)) (h:∀ gl,ACode P G c ⟨s.env,s.b,s.H.set i (some n,.blk 2 (fl [.os s.H.length gl 0 l.length 1,.err k]))++[(gl,.blk l.length (lbF l))]⟩ R):ACode P G c s R:=by
 have hlt:=(List.getElem?_eq_some_iff.1 hi).1
 refine code_unpack i hi fun z hz=>?_
 obtain ⟨n',gl⟩:=z
 obtain rfl:n'=n:=hz
 refine jE (weakH i 2 (fl [.os s.H.length gl 0 l.length 1,.err k]) (n:=2) (g:=some n') (f:=fl [.os 1 gl 0 l.length 1,.err k]) ?_ (Nat.le_refl _) fun j hj=>?_) ?_
 ·show (s.H.set i _++_)[i]?=_
  rw [List.getElem?_append_left (by simpa using hlt)]
  simp [hlt]
 ·rcases j with _|_|j
  ·exact cO rfl
  ·exact cZ
  ·omega
 ·have e:(s.H.set i (some n',Res.blk 2 (fl [.os 1 gl 0 l.length 1,.err k]))++[(gl,Res.blk l.length (lbF l))]).set i (some n',.blk 2 (fl [.os s.H.length gl 0 l.length 1,.err k]))=s.H.set i (some n',.blk 2 (fl [.os s.H.length gl 0 l.length 1,.err k]))++[(gl,.blk l.length (lbF l))]:=by
   rw [List.set_append_left _ _ (by simpa using hlt),List.set_set]
  have:=h gl
  rw [← e] at this
  exact this
theorem closeR0 (n k:Nat) (l:List (List UInt8)) (i j:Nat) {gl:Option Nat} {N:Nat} {f F:Nat→CV} (hi:s.H[i]?=some (some n,.blk 2 f)) (hj:s.H[j]?=some (gl,.blk N F)) (hij:Nat.beq i j=false) (h0:CEnt (f 0) (.os 1 gl 0 l.length 1)) (h1:CEnt (f 1) (.err k)) (hN:l.length≤N) (hF:∀ a,a<l.length→CEnt (F a) (lbF l a)) :
  EntS G s ⟨s.env,s.b,(s.H.set i (rdO n l k)).set j (none,.dead)⟩:=by
 have hij:=Nat.ne_of_beq_eq_false hij
 have hil:=(List.getElem?_eq_some_iff.1 hi).1
 have hjl:=(List.getElem?_eq_some_iff.1 hj).1
 refine EntS.hrel fun h=>?_
 have h2:=h.weak (F:=fl [.os 1 gl 0 l.length 1,.err k]) hi (Nat.le_refl _) fun a ha=>by
  rcases a with _|_|a
  ·exact h0
  ·exact h1
  ·omega
 have h3:=h2.weak (i:=j) (F:=lbF l) (by rw [List.getElem?_set_ne hij];exact hj) hN hF
 have h4:=h3.closeN (gd:=fun z:Nat×Option Nat=>z.1) (E:=rdE l k) (n,gl) i [j] (by simp [hij]) (by simp [hil,hjl]) (by
  simp only [pickL,List.map_cons,List.map_nil,List.getD_eq_getElem?_getD]
  rw [List.getElem?_set_ne (Ne.symm hij)]
  simp [hil,hjl,rdE])
 have e:killL (((s.H.set i (some n,Res.blk 2 (fl [CV.os 1 gl 0 l.length 1,CV.err k]))).set j (gl,Res.blk l.length (lbF l))).set i (objE n (fun z:Nat×Option Nat=>z.1) (rdE l k))) [j]=(s.H.set i (rdO n l k)).set j (none,.dead):=by
  show ((((s.H.set i _).set j _).set i _).set j _)=_
  rw [List.set_comm _ _ (Ne.symm hij),List.set_set,List.set_set]
  rfl
 rw [← e]
 exact h4
theorem code_openR {env:List (Nat×CV)} {b0:Nat→CV} {H:List (Option Nat×Res)} (i:Nat) (hi:H[i]?=some (rdO n l k)) (h:∀ gl,ACode P G c ⟨env,b0,H.set i (some n,.blk 2 (fl [.os H.length gl 0 l.length 1,.err k]))++[(gl,.blk l.length (lbF l))]⟩ R):ACode P G c ⟨env,b0,H⟩ R:=code_openR0 i hi h
theorem closeR {env:List (Nat×CV)} {b0:Nat→CV} {H:List (Option Nat×Res)} (n k:Nat) (l:List (List UInt8)) (i j:Nat) {gl:Option Nat} {N:Nat} {f F:Nat→CV} (hi:H[i]?=some (some n,.blk 2 f)) (hj:H[j]?=some (gl,.blk N F)) (hij:Nat.beq i j=false) (h0:CEnt (f 0) (.os 1 gl 0 l.length 1)) (h1:CEnt (f 1) (.err k)) (hN:l.length≤N) (hF:∀ a,a<l.length→CEnt (F a) (lbF l a)) :
  EntS G ⟨env,b0,H⟩ ⟨env,b0,(H.set i (rdO n l k)).set j (none,.dead)⟩:=closeR0 n k l i j hi hj hij h0 h1 hN hF
end
def nowL (l:List (List UInt8)):List UInt8:=l.getD (l.length-1) []
def moreM (l:List (List UInt8)) (k:Nat):Bool:=decide (k=0) && decide (0<(nowL l).length)
theorem now_ac {gs:List Nat} (n:Nat) (l:List (List UInt8)) (k:Nat) (hl:0<l.length∧l.length≤1000000):AC gs Tryz.prog 137 [rdO n l k] [.op 0 (some n) 0] (fun r H'=>r=bsC (nowL l)∧H'=[rdO n l k]):=by
 refine ac_of 15 Tryz.func137 rfl rfl rfl (fun al w0 F0 St0=>?_)
 refine code_openR 0 rfl fun gl=>?_;refine jU 7516 ?_
 skip
 refine jcd (.rd 0 (.rd 1 (.rd 2 (.rd 3 (.rd 4 (.rd 5 (.rd 6 (.rd 7 (.rd 8 (.rd 9 (.rd 10 (.rd 11 (.rd 12 .done))))))))))))) ?_;refine jU 3000020000100009000005000070100009000005000070 ?_;refine jyq (jri (i:=(l.length-1)) (hz:=by omega)) ?_;refine jU 70008807010000 ?_
 exact end_pack (gd:=fun z:Nat×Option Nat=>z.1) (E:=rdE l k) (.inl rfl) _ (n,gl) [0,1] (by decide) rfl (res_1 rfl (arv_tmp rfl)) ⟨rfl,rfl⟩
theorem fail08_ac {gs:List Nat} (n:Nat) (l:List (List UInt8)) (k e:Nat):AC gs Tryz.prog 187 [rdO n l k] [.op 0 (some n) 0,.err e] (fun r H'=>r=.c (.tuple #[])∧H'=[rdO n l (if k=0 then e else k)]):=by
 refine ac_of 13 Tryz.func187 rfl rfl rfl (fun al w0 F0 St0=>?_)
 refine code_openR 0 rfl fun gl=>?_;refine jU 5500000501004016 ?_;refine jcc (fun h161=>?_) fun h161=>?_
 rotate_left
 ·refine jU 10 ?_
  rw [if_neg (by omega)]
  exact end_pack (gd:=fun z:Nat×Option Nat=>z.1) (E:=rdE l k) (.inr rfl) _ (n,gl) [0,1] (by decide) rfl (res_0 rfl) ⟨rfl,rfl⟩
 refine jU 1004011200 ?_
 refine jqm (jmstF 1 (fl [.os 1 gl 0 l.length 1,.err e]) ?_ ?_)
 ·exact (fun j hj=>by rcases j with _|_|j <;> exact cZ)
 refine jU 5 ?_
 rw [if_pos (by omega)]
 exact end_pack (gd:=fun z:Nat×Option Nat=>z.1) (E:=rdE l e) (.inr rfl) _ (n,gl) [0,1] (by decide) rfl (res_0 rfl) ⟨rfl,rfl⟩
theorem err08_ac {gs:List Nat} (n:Nat) (l:List (List UInt8)) (k:Nat):AC gs Tryz.prog 185 [rdO n l k] [.op 0 (some n) 0] (fun r H'=>r=.err k∧H'=[rdO n l k]):=by
 refine ac_of 7 Tryz.func185 rfl rfl rfl (fun al w0 F0 St0=>?_)
 refine code_openR 0 rfl fun gl=>?_;refine jU 516 ?_
 skip
 refine jU 700051501004016 ?_
 exact end_pack (gd:=fun z:Nat×Option Nat=>z.1) (E:=rdE l k) (.inl rfl) _ (n,gl) [0,1] (by decide) rfl (res_1 rfl (arv_tmp rfl)) ⟨rfl,rfl⟩
theorem more_pos {l:List (List UInt8)} {k:Nat} (h:moreM l k=true):k=0∧0<(nowL l).length:=by simpa [moreM] using h
theorem more_ac {gs:List Nat} (n:Nat) (l:List (List UInt8)) (k:Nat) (hl:0<l.length∧l.length≤1000000):AC gs Tryz.prog 193 [rdO n l k] [.op 0 (some n) 0] (fun r H'=>r=.c (.bool (moreM l k))∧H'=[rdO n l k]):=by
 refine ac_of 14 Tryz.func193 rfl rfl rfl (fun al w0 F0 St0=>?_)
 refine code_openR 0 rfl fun gl=>?_;refine jU 516 ?_
 skip
 refine jU 501004016 ?_;refine seq_ent (closeR n k l 0 1 rfl rfl rfl cZ cZ (Nat.le_refl _) (fun _ _=>cZ)) ?_;refine jU 1500000 ?_;refine jqsp 8 (fun g173=>?_) fun g173=>?_
 rotate_left
 ·refine jU 7000515004444 ?_
  exact end_H (.inl rfl) rfl (res_1 rfl (arv_tmp rfl)) (cB (by unfold moreM;(simp [g173];done)))
 refine jU 1 ?_
 refine jqm (jmcH 0 (now_ac n l k hl) ?_)
 rintro _ _ ⟨rfl,rfl⟩
 refine ⟨_,_,rfl,cZ,?_⟩
 refine jU 700051800023 ?_
 exact end_H (.inl rfl) rfl (res_1 rfl (arv_tmp rfl)) (cB (by unfold moreM;(simp [g173];done)))
end
section
variable {gs:List Nat} [Ok9 gs]

structure NR where
 l:List (List UInt8)
 k:Nat
 tag:Nat
 body:List UInt8
 raw:List UInt8
 is:Bool
def nextR (tag:Int) (l:List (List UInt8)) (k:Nat):NR :=
 if k≠0 then ⟨l,k,0,[],[],false⟩ else
 if (nextM (nowL l)).e≠0 then ⟨l,(nextM (nowL l)).e,0,[],[],false⟩ else
 if tag≠0∧((nextM (nowL l)).tag:Int)≠tag then ⟨l,5,0,[],[],false⟩ else
 ⟨l.set (l.length-1) (nextM (nowL l)).rest,0,(nextM (nowL l)).tag,(nextM (nowL l)).body,(nowL l).take ((nowL l).length-(nextM (nowL l)).rest.length),true⟩
theorem lb_set {l:List (List UInt8)} {i:Nat} {x:List UInt8} {j:Nat} (hj:j<l.length):CEnt (updF (lbF l) i [bsC x] j) (lbF (l.set i x) j):=by
 refine CEnt.of_eq ?_
 rw [updF_get]
 simp only [lbF,List.length_singleton,List.getD_eq_getElem?_getD,List.getElem?_set]
 by_cases h:i=j
 ·subst h
  rw [if_pos (by omega),if_pos rfl,if_pos hj,Nat.sub_self]
  rfl
 ·rw [if_neg (by omega),if_neg h]
theorem nextR_ac (n:Nat) (l:List (List UInt8)) (k:Nat) (tag:Int) (hl:0<l.length∧l.length≤1000000) (hb:(nowL l).length≤10000000):AC gs Tryz.prog 138 [rdO n l k] [.op 0 (some n) 0,.c (.int .i64 tag)]
  (fun r H'=>r=.tup 3 (fl [elC (nextR tag l k).tag (nextR tag l k).body,bsC (nextR tag l k).raw,.c (.bool (nextR tag l k).is)])∧H'=[rdO n (nextR tag l k).l (nextR tag l k).k]):=by
 have hnb:=nextM_bd (nowL l)
 refine ac_of 67 Tryz.func138 rfl rfl rfl (fun al w0 F0 St0=>?_)
 refine jcr ?_
 refine jqe (jeal (n:=2) zr199 rfl fun p1=>?_)
 refine jU 7511 ?_;refine code_openR 0 rfl fun gl=>?_;refine jU 5500000501004016 ?_;refine jcc (fun h185=>?_) fun h185=>?_
 ·refine jE (closeR n k l 0 2 rfl rfl rfl (cO rfl) cZ (Nat.le_refl _) (fun _ _=>cZ)) ?_
  dsimp only [List.set_cons_zero,List.set_cons_succ,List.cons_append,List.nil_append,List.length_cons,List.length_nil,Nat.zero_add,Nat.reduceAdd]
  refine jcr ?_;refine jq (rd_build (n:=2) rfl zr199 pl199 rfl rfl) ?_
  refine jqm (jmst 2 ?_)
  refine jU 30007000511 ?_
  have hN:nextR tag l k=⟨l,k,0,[],[],false⟩:=by unfold nextR;rw [if_pos (by omega)]
  rw [hN]
  refine end_H (.inl rfl) rfl (res_3 rfl (javA 2) javt javt) ?_
  exact CEnt.tup3 (CEnt.agg2 cZ cN) cN cZ
 refine jU 810 ?_
 obtain rfl:k=0:=by omega
 refine jE (closeR n 0 l 0 2 rfl rfl rfl (cO rfl) cZ (Nat.le_refl _) (fun _ _=>cZ)) ?_
 dsimp only [List.set_cons_zero,List.set_cons_succ,List.cons_append,List.nil_append,List.length_cons,List.length_nil,Nat.zero_add,Nat.reduceAdd]
 refine jU 16 ?_
 refine jqm (jmcH 0 (now_ac n l 0 hl) ?_)
 rintro _ _ ⟨rfl,rfl⟩
 refine ⟨_,_,rfl,cZ,?_⟩
 refine jqe (jecP (next_ac (nowL l) hb) ?_)
 refine jU 9009009001 ?_
 refine jqe (jeal (n:=2) zr199 rfl fun p3=>?_)
 refine jqm (jmst 2 ?_)
 refine jU 5150000016207511 ?_;refine jcc (fun h190=>?_) fun h190=>?_
 ·refine code_openR 0 rfl fun gl2=>?_;refine jU 1004011200 ?_
  refine jqm (jmstF 1 (fl [.os 4 gl2 0 l.length 1,.err (nextM (nowL l)).e]) ?_ ?_)
  ·exact (fun j hj=>by rcases j with _|_|j <;> exact cZ)
  refine jU 84005 ?_
  first
   | refine jE (closeR n (nextM (nowL l)).e l 0 4 rfl rfl rfl (cO rfl) cZ (Nat.le_refl _) (fun _ _=>cZ)) ?_
   | refine jE (closeR n 5 l 0 4 rfl rfl rfl (cO rfl) cZ (Nat.le_refl _) (fun _ _=>cZ)) ?_
  refine jcr ?_;refine jq (rd_build (n:=2) rfl zr199 pl199 rfl rfl) ?_
  refine jqm (jmst 2 ?_)
  refine jU 7000511 ?_
  first
   |(have hN:nextR tag l 0=⟨l,(nextM (nowL l)).e,0,[],[],false⟩:=by unfold nextR;rw [if_neg (by omega),if_pos (by omega)])
   |(have hN:nextR tag l 0=⟨l,5,0,[],[],false⟩:=by unfold nextR;rw [if_neg (by omega),if_neg (by omega),if_pos (by omega)])
  rw [hN]
  refine end_H (.inl rfl) rfl (res_3 rfl (javA 2) javt javt) ?_
  exact CEnt.tup3 (CEnt.agg2 cZ cN) cN cZ
 refine jU 1216 ?_;refine jqsp 56 (fun g192=>?_) fun g192=>?_
 rotate_left
 ·refine jU 16300515004444 ?_
  refine jqm (jmcH 0 (now_ac n l 0 hl) ?_)
  rintro _ _ ⟨rfl,rfl⟩
  refine ⟨_,_,rfl,cZ,?_⟩
  refine jU 751 ?_;refine code_openR 0 rfl fun gl2=>?_;refine jcdB 12 (.rd 0 (.rd 1 (.rd 2 (.rd 3 (.rd 4 (.rd 5 (.rd 6 (.rd 7 (.rd 8 (.rd 9 (.rd 10 (.rd 11 .done)))))))))))) ?_;refine jU 703000020000100009000005000070100009000005000070 ?_;refine jyq (jri (i:=(l.length-1)) (hz:=by omega)) ?_;refine jyd ?_
  show ASeq _ _ _ _ _ _
  refine jqm (jmstF 1 (lbF (l.set (l.length-1) (nextM (nowL l)).rest)) ?_ ?_)
  ·exact (fun j hj=>lb_set hj)
  refine jU 785 ?_;refine jE (closeR n 0 (l.set (l.length-1) (nextM (nowL l)).rest) 0 4 rfl rfl rfl (cO (by simp)) cZ (by simp) (fun _ _=>cZ)) ?_
  dsimp only [List.set_cons_zero,List.set_cons_succ,List.cons_append,List.nil_append,List.length_cons,List.length_nil,Nat.zero_add,Nat.reduceAdd]
  refine jE (freeze 3 rfl) ?_;refine jE (thawP 7 (m:=2) rfl rfl (by decide)) ?_;refine jcdZ (.rd 0 (.rd 1 (.rd 2 (.rd 3 (.rd 4 (.rd 5 (.rd 6 (.rd 7 (.one 8 (.rd 9 (.rd 10 .done))))))))))) ?_;refine jzq (jrdrA 2) ?_;refine jU 400000400000 ?_;refine jzq jrl ?_;refine jzq jrm ?_;refine jzq jrl ?_;refine jzq jra ?_;refine jzq jrst ?_
  refine jzm (jmst 2 ?_)
  refine jU 3000500070008700000400000400000 ?_
  have hN:nextR tag l 0=⟨l.set (l.length-1) (nextM (nowL l)).rest,0,(nextM (nowL l)).tag,(nextM (nowL l)).body,(nowL l).take ((nowL l).length-(nextM (nowL l)).rest.length),true⟩:=by unfold nextR;rw [if_neg (by omega),if_neg (by omega),if_neg (by omega)]
  rw [hN]
  refine end_H (.inl rfl) rfl (res_3 rfl (javA 2) javt javt) ?_
  exact CEnt.tup3 (CEnt.agg2 cZ cZ) (CEnt.bs (by congr 1;omega)) cZ
 refine jU 518000215090 ?_;refine jcc (fun h192=>?_) fun h192=>?_
 ·refine code_openR 0 rfl fun gl2=>?_;refine jU 1200 ?_;refine jq (jrde 4) ?_;refine jU 10040 ?_
  refine jqm (jmstF 1 (fl [.os 4 gl2 0 l.length 1,.err 5]) ?_ ?_)
  ·exact (fun j hj=>by rcases j with _|_|j <;> exact cZ)
  refine jU 84005 ?_
  first
   | refine jE (closeR n (nextM (nowL l)).e l 0 4 rfl rfl rfl (cO rfl) cZ (Nat.le_refl _) (fun _ _=>cZ)) ?_
   | refine jE (closeR n 5 l 0 4 rfl rfl rfl (cO rfl) cZ (Nat.le_refl _) (fun _ _=>cZ)) ?_
  refine jcr ?_;refine jq (rd_build (n:=2) rfl zr199 pl199 rfl rfl) ?_
  refine jqm (jmst 2 ?_)
  refine jU 7000511 ?_
  first
   |(have hN:nextR tag l 0=⟨l,(nextM (nowL l)).e,0,[],[],false⟩:=by unfold nextR;rw [if_neg (by omega),if_pos (by omega)])
   |(have hN:nextR tag l 0=⟨l,5,0,[],[],false⟩:=by unfold nextR;rw [if_neg (by omega),if_neg (by omega),if_pos (by omega)])
  rw [hN]
  refine end_H (.inl rfl) rfl (res_3 rfl (javA 2) javt javt) ?_
  exact CEnt.tup3 (CEnt.agg2 cZ cN) cN cZ
 refine jU 16 ?_
 refine jqm (jmcH 0 (now_ac n l 0 hl) ?_)
 rintro _ _ ⟨rfl,rfl⟩
 refine ⟨_,_,rfl,cZ,?_⟩
 refine jU 751 ?_;refine code_openR 0 rfl fun gl2=>?_;refine jcdB 12 (.rd 0 (.rd 1 (.rd 2 (.rd 3 (.rd 4 (.rd 5 (.rd 6 (.rd 7 (.rd 8 (.rd 9 (.rd 10 (.rd 11 .done)))))))))))) ?_;refine jU 703000020000100009000005000070100009000005000070 ?_;refine jyq (jri (i:=(l.length-1)) (hz:=by omega)) ?_;refine jyd ?_
 show ASeq _ _ _ _ _ _
 refine jqm (jmstF 1 (lbF (l.set (l.length-1) (nextM (nowL l)).rest)) ?_ ?_)
 ·exact (fun j hj=>lb_set hj)
 refine jU 785 ?_;refine jE (closeR n 0 (l.set (l.length-1) (nextM (nowL l)).rest) 0 4 rfl rfl rfl (cO (by simp)) cZ (by simp) (fun _ _=>cZ)) ?_
 dsimp only [List.set_cons_zero,List.set_cons_succ,List.cons_append,List.nil_append,List.length_cons,List.length_nil,Nat.zero_add,Nat.reduceAdd]
 refine jE (freeze 3 rfl) ?_;refine jE (thawP 7 (m:=2) rfl rfl (by decide)) ?_;refine jcdZ (.rd 0 (.rd 1 (.rd 2 (.rd 3 (.rd 4 (.rd 5 (.rd 6 (.rd 7 (.one 8 (.rd 9 (.rd 10 .done))))))))))) ?_;refine jzq (jrdrA 2) ?_;refine jU 400000400000 ?_;refine jzq jrl ?_;refine jzq jrm ?_;refine jzq jrl ?_;refine jzq jra ?_;refine jzq jrst ?_
 refine jzm (jmst 2 ?_)
 refine jU 3000500070008700000400000400000 ?_
 have hN:nextR tag l 0=⟨l.set (l.length-1) (nextM (nowL l)).rest,0,(nextM (nowL l)).tag,(nextM (nowL l)).body,(nowL l).take ((nowL l).length-(nextM (nowL l)).rest.length),true⟩:=by unfold nextR;rw [if_neg (by omega),if_neg (by omega),if_neg (by omega)]
 rw [hN]
 refine end_H (.inl rfl) rfl (res_3 rfl (javA 2) javt javt) ?_
 exact CEnt.tup3 (CEnt.agg2 cZ cZ) (CEnt.bs (by congr 1;omega)) cZ
end
section
variable {gs:List Nat} [Ok9 gs]

def enterR (tag:Int) (l:List (List UInt8)) (k:Nat):NR :=
 nextR tag l (if moreM l k=true∧madeM tag=false then 5 else k)
def enterL (tag:Int) (l:List (List UInt8)) (k:Nat):List (List UInt8):=if (enterR tag l k).is=true then (enterR tag l k).l++[(enterR tag l k).body] else (enterR tag l k).l
theorem enter_ac (n:Nat) (l:List (List UInt8)) (k:Nat) (tag:Int) (hl:0<l.length∧l.length≤1000000) (hb:(nowL l).length≤10000000):AC gs Tryz.prog 64 [rdO n l k] [.op 0 (some n) 0,.c (.int .i64 tag)]
  (fun r H'=>r=.c (.bool (enterR tag l k).is)∧H'=[rdO n (enterL tag l k) (enterR tag l k).k]):=by
 have hnl:∀ k,0<(nextR tag l k).l.length∧(nextR tag l k).l.length≤1000000:=fun k=>by
  unfold nextR
  split
  ·exact hl
  ·split
   ·exact hl
   ·split
    ·exact hl
    ·simp only [List.length_set];exact hl
 refine ac_of 48 Tryz.func64 rfl rfl rfl (fun al w0 F0 St0=>?_)
 refine jU 7516 ?_;refine code_openR 0 rfl fun gl=>?_;refine jU 501004016 ?_;refine seq_ent (closeR n k l 0 1 rfl rfl rfl (cO rfl) cZ (Nat.le_refl _) (fun _ _=>cZ)) ?_;refine jU 1500000 ?_;refine jqsp 13 (fun g204=>?_) fun g204=>?_
 rotate_left
 ·refine jU 810300550044415004444 ?_
  first
   |(refine jE (closeR n 5 l 0 2 rfl rfl rfl (cO rfl) cZ (Nat.le_refl _) (fun _ _=>cZ)) ?_;refine jE (pick_ent (H':=[rdO n l 5]) [0] (by decide) rfl) ?_;have hE:enterR tag l k=nextR tag l 5:=by unfold enterR;rw [if_pos (by simp_all [moreM,madeM])])
   |(refine jE (pick_ent (H':=[rdO n l k]) [0] (by decide) rfl) ?_;have hE:enterR tag l k=nextR tag l k:=by unfold enterR;rw [if_neg (by simp_all [moreM,madeM])])
  refine jU 116 ?_
  refine jqm (jmcH 0 (nextR_ac n l _ tag hl hb) ?_)
  rintro _ _ ⟨rfl,rfl⟩
  refine ⟨_,_,rfl,cZ,?_⟩
  refine jU 9009009001 ?_
  refine jqe (jeal (n:=2) zr199 rfl fun p2=>?_)
  refine jqm (jmst 2 ?_)
  refine jU 7511 ?_
  rw [← hE]
  have hel:0<(enterR tag l k).l.length∧(enterR tag l k).l.length≤1000000:=by rw [hE];exact hnl _
  refine jU 516 ?_;refine jcc (fun h208=>?_) fun h208=>?_
  rotate_left
  ·refine jU 810 ?_
   first
    |(refine jE (closeR n (enterR tag l k).k ((enterR tag l k).l++[(enterR tag l k).body]) 0 2 rfl rfl rfl (cO (by simp)) cZ (by simp) (fun _ _=>cZ)) ?_;have hL:enterL tag l k=(enterR tag l k).l++[(enterR tag l k).body]:=by unfold enterL;rw [if_pos (by simpa using h208)])
    | have hL:enterL tag l k=(enterR tag l k).l:=by unfold enterL;rw [if_neg (by simpa using h208)]
   refine jU 70005116 ?_
   rw [hL]
   exact end_H (.inl rfl) rfl (res_1 rfl (arv_tmp rfl)) cZ
  refine jE (freeze 1 rfl) ?_;refine jE (thawP 5 (m:=2) rfl rfl (by decide)) ?_
  dsimp only [List.set_cons_zero,List.set_cons_succ,List.cons_append,List.nil_append,List.length_cons,List.length_nil,Nat.zero_add,Nat.reduceAdd]
  refine code_openR 0 rfl fun gl3=>?_;refine jcdZ (.rd 0 (.rd 1 (.rd 2 (.rd 3 (.rd 4 (.rd 5 (.rd 6 (.one 7 (.one 8 (.rd 9 (.rd 10 (.one 11 .done)))))))))))) ?_;refine jU 6000000050000000100000009000000400000400000 ?_;refine jzq jrdr ?_
  refine jze (jebl 1 1 zr22 fun p3=>?_)
  refine jzm (m_appendC (rowC_lb) (l2:=[(enterR tag l k).body]) rfl rfl rfl rfl (by omega) (fun _ _=>cZ) (src_os rfl (.inl rfl) (by decide)) rfl (fun j hj=>by rcases j with _|j <;> first|exact cZ|(exfalso;simp at hj <;> omega)) Tryz.underlying186 nu186 sz22 zr22 by22 rfl (by (simp;omega)) (by (simp;omega)) (leaf_flk rfl rfl) rfl rfl rfl (fun p4=>?_))
  refine jU 100000009000000 ?_
  refine jzm (jmst 1 ?_)
  refine jU 8700000 ?_
  first
   |(refine jE (closeR n (enterR tag l k).k ((enterR tag l k).l++[(enterR tag l k).body]) 0 2 rfl rfl rfl (cO (by simp)) cZ (by simp) (fun _ _=>cZ)) ?_;have hL:enterL tag l k=(enterR tag l k).l++[(enterR tag l k).body]:=by unfold enterL;rw [if_pos (by simpa using h208)])
   | have hL:enterL tag l k=(enterR tag l k).l:=by unfold enterL;rw [if_neg (by simpa using h208)]
  refine jU 70005116 ?_
  rw [hL]
  exact end_H (.inl rfl) rfl (res_1 rfl (arv_tmp rfl)) cZ
 refine jU 1 ?_
 refine jqm (jmcH 0 (now_ac n l k hl) ?_)
 rintro _ _ ⟨rfl,rfl⟩
 refine ⟨_,_,rfl,cZ,?_⟩
 refine jU 1800023 ?_;refine jqsp 19 (fun g204_2=>?_) fun g204_2=>?_
 rotate_left
 ·refine jU 8103005500444 ?_
  first
   |(refine jE (closeR n 5 l 0 2 rfl rfl rfl (cO rfl) cZ (Nat.le_refl _) (fun _ _=>cZ)) ?_;refine jE (pick_ent (H':=[rdO n l 5]) [0] (by decide) rfl) ?_;have hE:enterR tag l k=nextR tag l 5:=by unfold enterR;rw [if_pos (by simp_all [moreM,madeM])])
   |(refine jE (pick_ent (H':=[rdO n l k]) [0] (by decide) rfl) ?_;have hE:enterR tag l k=nextR tag l k:=by unfold enterR;rw [if_neg (by simp_all [moreM,madeM])])
  refine jU 116 ?_
  refine jqm (jmcH 0 (nextR_ac n l _ tag hl hb) ?_)
  rintro _ _ ⟨rfl,rfl⟩
  refine ⟨_,_,rfl,cZ,?_⟩
  refine jU 9009009001 ?_
  refine jqe (jeal (n:=2) zr199 rfl fun p3=>?_)
  refine jqm (jmst 2 ?_)
  refine jU 7511 ?_
  rw [← hE]
  have hel:0<(enterR tag l k).l.length∧(enterR tag l k).l.length≤1000000:=by rw [hE];exact hnl _
  refine jU 516 ?_;refine jcc (fun h208=>?_) fun h208=>?_
  rotate_left
  ·refine jU 810 ?_
   first
    |(refine jE (closeR n (enterR tag l k).k ((enterR tag l k).l++[(enterR tag l k).body]) 0 2 rfl rfl rfl (cO (by simp)) cZ (by simp) (fun _ _=>cZ)) ?_;have hL:enterL tag l k=(enterR tag l k).l++[(enterR tag l k).body]:=by unfold enterL;rw [if_pos (by simpa using h208)])
    | have hL:enterL tag l k=(enterR tag l k).l:=by unfold enterL;rw [if_neg (by simpa using h208)]
   refine jU 70005116 ?_
   rw [hL]
   exact end_H (.inl rfl) rfl (res_1 rfl (arv_tmp rfl)) cZ
  refine jE (freeze 1 rfl) ?_;refine jE (thawP 5 (m:=2) rfl rfl (by decide)) ?_
  dsimp only [List.set_cons_zero,List.set_cons_succ,List.cons_append,List.nil_append,List.length_cons,List.length_nil,Nat.zero_add,Nat.reduceAdd]
  refine code_openR 0 rfl fun gl3=>?_;refine jcdZ (.rd 0 (.rd 1 (.rd 2 (.rd 3 (.rd 4 (.rd 5 (.rd 6 (.one 7 (.one 8 (.rd 9 (.rd 10 (.one 11 .done)))))))))))) ?_;refine jU 6000000050000000100000009000000400000400000 ?_;refine jzq jrdr ?_
  refine jze (jebl 1 1 zr22 fun p4=>?_)
  refine jzm (m_appendC (rowC_lb) (l2:=[(enterR tag l k).body]) rfl rfl rfl rfl (by omega) (fun _ _=>cZ) (src_os rfl (.inl rfl) (by decide)) rfl (fun j hj=>by rcases j with _|j <;> first|exact cZ|(exfalso;simp at hj <;> omega)) Tryz.underlying186 nu186 sz22 zr22 by22 rfl (by (simp;omega)) (by (simp;omega)) (leaf_flk rfl rfl) rfl rfl rfl (fun p5=>?_))
  refine jU 100000009000000 ?_
  refine jzm (jmst 1 ?_)
  refine jU 8700000 ?_
  first
   |(refine jE (closeR n (enterR tag l k).k ((enterR tag l k).l++[(enterR tag l k).body]) 0 2 rfl rfl rfl (cO (by simp)) cZ (by simp) (fun _ _=>cZ)) ?_;have hL:enterL tag l k=(enterR tag l k).l++[(enterR tag l k).body]:=by unfold enterL;rw [if_pos (by simpa using h208)])
   | have hL:enterL tag l k=(enterR tag l k).l:=by unfold enterL;rw [if_neg (by simpa using h208)]
  refine jU 70005116 ?_
  rw [hL]
  exact end_H (.inl rfl) rfl (res_1 rfl (arv_tmp rfl)) cZ
 refine jU 1 ?_
 refine jqe (jecP (made_ac _) ?_)
 refine jU 5800030 ?_;refine jcc (fun h204=>?_) fun h204=>?_
 rotate_left
 ·refine jU 810 ?_
  first
   |(refine jE (closeR n 5 l 0 2 rfl rfl rfl (cO rfl) cZ (Nat.le_refl _) (fun _ _=>cZ)) ?_;refine jE (pick_ent (H':=[rdO n l 5]) [0] (by decide) rfl) ?_;have hE:enterR tag l k=nextR tag l 5:=by unfold enterR;rw [if_pos (by simp_all [moreM,madeM])])
   |(refine jE (pick_ent (H':=[rdO n l k]) [0] (by decide) rfl) ?_;have hE:enterR tag l k=nextR tag l k:=by unfold enterR;rw [if_neg (by simp_all [moreM,madeM])])
  refine jU 116 ?_
  refine jqm (jmcH 0 (nextR_ac n l _ tag hl hb) ?_)
  rintro _ _ ⟨rfl,rfl⟩
  refine ⟨_,_,rfl,cZ,?_⟩
  refine jU 9009009001 ?_
  refine jqe (jeal (n:=2) zr199 rfl fun p3=>?_)
  refine jqm (jmst 2 ?_)
  refine jU 7511 ?_
  rw [← hE]
  have hel:0<(enterR tag l k).l.length∧(enterR tag l k).l.length≤1000000:=by rw [hE];exact hnl _
  refine jU 516 ?_;refine jcc (fun h208=>?_) fun h208=>?_
  rotate_left
  ·refine jU 810 ?_
   first
    |(refine jE (closeR n (enterR tag l k).k ((enterR tag l k).l++[(enterR tag l k).body]) 0 2 rfl rfl rfl (cO (by simp)) cZ (by simp) (fun _ _=>cZ)) ?_;have hL:enterL tag l k=(enterR tag l k).l++[(enterR tag l k).body]:=by unfold enterL;rw [if_pos (by simpa using h208)])
    | have hL:enterL tag l k=(enterR tag l k).l:=by unfold enterL;rw [if_neg (by simpa using h208)]
   refine jU 70005116 ?_
   rw [hL]
   exact end_H (.inl rfl) rfl (res_1 rfl (arv_tmp rfl)) cZ
  refine jE (freeze 1 rfl) ?_;refine jE (thawP 5 (m:=2) rfl rfl (by decide)) ?_
  dsimp only [List.set_cons_zero,List.set_cons_succ,List.cons_append,List.nil_append,List.length_cons,List.length_nil,Nat.zero_add,Nat.reduceAdd]
  refine code_openR 0 rfl fun gl3=>?_;refine jcdZ (.rd 0 (.rd 1 (.rd 2 (.rd 3 (.rd 4 (.rd 5 (.rd 6 (.one 7 (.one 8 (.rd 9 (.rd 10 (.one 11 .done)))))))))))) ?_;refine jU 6000000050000000100000009000000400000400000 ?_;refine jzq jrdr ?_
  refine jze (jebl 1 1 zr22 fun p4=>?_)
  refine jzm (m_appendC (rowC_lb) (l2:=[(enterR tag l k).body]) rfl rfl rfl rfl (by omega) (fun _ _=>cZ) (src_os rfl (.inl rfl) (by decide)) rfl (fun j hj=>by rcases j with _|j <;> first|exact cZ|(exfalso;simp at hj <;> omega)) Tryz.underlying186 nu186 sz22 zr22 by22 rfl (by (simp;omega)) (by (simp;omega)) (leaf_flk rfl rfl) rfl rfl rfl (fun p5=>?_))
  refine jU 100000009000000 ?_
  refine jzm (jmst 1 ?_)
  refine jU 8700000 ?_
  first
   |(refine jE (closeR n (enterR tag l k).k ((enterR tag l k).l++[(enterR tag l k).body]) 0 2 rfl rfl rfl (cO (by simp)) cZ (by simp) (fun _ _=>cZ)) ?_;have hL:enterL tag l k=(enterR tag l k).l++[(enterR tag l k).body]:=by unfold enterL;rw [if_pos (by simpa using h208)])
   | have hL:enterL tag l k=(enterR tag l k).l:=by unfold enterL;rw [if_neg (by simpa using h208)]
  refine jU 70005116 ?_
  rw [hL]
  exact end_H (.inl rfl) rfl (res_1 rfl (arv_tmp rfl)) cZ
 refine code_openR 0 rfl fun gl2=>?_;refine jU 1200 ?_;refine jq (jrde 4) ?_;refine jU 10040 ?_
 refine jqm (jmstF 1 (fl [.os 2 gl2 0 l.length 1,.err 5]) ?_ ?_)
 ·exact (fun j hj=>by rcases j with _|_|j <;> exact cZ)
 refine jU 85 ?_
 first
  |(refine jE (closeR n 5 l 0 2 rfl rfl rfl (cO rfl) cZ (Nat.le_refl _) (fun _ _=>cZ)) ?_;refine jE (pick_ent (H':=[rdO n l 5]) [0] (by decide) rfl) ?_;have hE:enterR tag l k=nextR tag l 5:=by unfold enterR;rw [if_pos (by simp_all [moreM,madeM])])
  |(refine jE (pick_ent (H':=[rdO n l k]) [0] (by decide) rfl) ?_;have hE:enterR tag l k=nextR tag l k:=by unfold enterR;rw [if_neg (by simp_all [moreM,madeM])])
 refine jU 116 ?_
 refine jqm (jmcH 0 (nextR_ac n l _ tag hl hb) ?_)
 rintro _ _ ⟨rfl,rfl⟩
 refine ⟨_,_,rfl,cZ,?_⟩
 refine jU 9009009001 ?_
 refine jqe (jeal (n:=2) zr199 rfl fun p3=>?_)
 refine jqm (jmst 2 ?_)
 refine jU 7511 ?_
 rw [← hE]
 have hel:0<(enterR tag l k).l.length∧(enterR tag l k).l.length≤1000000:=by rw [hE];exact hnl _
 refine jU 516 ?_;refine jcc (fun h208=>?_) fun h208=>?_
 rotate_left
 ·refine jU 810 ?_
  first
   |(refine jE (closeR n (enterR tag l k).k ((enterR tag l k).l++[(enterR tag l k).body]) 0 2 rfl rfl rfl (cO (by simp)) cZ (by simp) (fun _ _=>cZ)) ?_;have hL:enterL tag l k=(enterR tag l k).l++[(enterR tag l k).body]:=by unfold enterL;rw [if_pos (by simpa using h208)])
   | have hL:enterL tag l k=(enterR tag l k).l:=by unfold enterL;rw [if_neg (by simpa using h208)]
  refine jU 70005116 ?_
  rw [hL]
  exact end_H (.inl rfl) rfl (res_1 rfl (arv_tmp rfl)) cZ
 refine jE (freeze 1 rfl) ?_;refine jE (thawP 5 (m:=2) rfl rfl (by decide)) ?_
 dsimp only [List.set_cons_zero,List.set_cons_succ,List.cons_append,List.nil_append,List.length_cons,List.length_nil,Nat.zero_add,Nat.reduceAdd]
 refine code_openR 0 rfl fun gl3=>?_;refine jcdZ (.rd 0 (.rd 1 (.rd 2 (.rd 3 (.rd 4 (.rd 5 (.rd 6 (.one 7 (.one 8 (.rd 9 (.rd 10 (.one 11 .done)))))))))))) ?_;refine jU 6000000050000000100000009000000400000400000 ?_;refine jzq jrdr ?_
 refine jze (jebl 1 1 zr22 fun p4=>?_)
 refine jzm (m_appendC (rowC_lb) (l2:=[(enterR tag l k).body]) rfl rfl rfl rfl (by omega) (fun _ _=>cZ) (src_os rfl (.inl rfl) (by decide)) rfl (fun j hj=>by rcases j with _|j <;> first|exact cZ|(exfalso;simp at hj <;> omega)) Tryz.underlying186 nu186 sz22 zr22 by22 rfl (by (simp;omega)) (by (simp;omega)) (leaf_flk rfl rfl) rfl rfl rfl (fun p5=>?_))
 refine jU 100000009000000 ?_
 refine jzm (jmst 1 ?_)
 refine jU 8700000 ?_
 first
  |(refine jE (closeR n (enterR tag l k).k ((enterR tag l k).l++[(enterR tag l k).body]) 0 2 rfl rfl rfl (cO (by simp)) cZ (by simp) (fun _ _=>cZ)) ?_;have hL:enterL tag l k=(enterR tag l k).l++[(enterR tag l k).body]:=by unfold enterL;rw [if_pos (by simpa using h208)])
  | have hL:enterL tag l k=(enterR tag l k).l:=by unfold enterL;rw [if_neg (by simpa using h208)]
 refine jU 70005116 ?_
 rw [hL]
 exact end_H (.inl rfl) rfl (res_1 rfl (arv_tmp rfl)) cZ
def leaveK (l:List (List UInt8)) (k:Nat):Nat:=if k≠0 then k else if l.length=1 then 24 else if 0<(nowL l).length then 4 else 0
def leaveL (l:List (List UInt8)) (k:Nat):List (List UInt8):=if leaveK l k=0 then l.take (l.length-1) else l
theorem lbF_take {l:List (List UInt8)} {m j:Nat} (h:j<m):CEnt (lbF l j) (lbF (l.take m) j):=by
 refine CEnt.of_eq ?_
 simp [lbF,List.getD_eq_getElem?_getD,h]
theorem leave_ac (n:Nat) (l:List (List UInt8)) (k:Nat) (hl:0<l.length∧l.length≤1000000):AC gs Tryz.prog 67 [rdO n l k] [.op 0 (some n) 0]
  (fun r H'=>r=.c (.tuple #[])∧H'=[rdO n (leaveL l k) (leaveK l k)]):=by
 have stay:∀ {e},leaveK l k=e→e≠0→leaveL l k=l:=fun h h0=>by unfold leaveL;rw [h,if_neg h0]
 refine ac_of 45 Tryz.func67 rfl rfl rfl (fun al w0 F0 St0=>?_)
 refine code_openR 0 rfl fun gl=>?_;refine jU 5150000050100401620519350904016 ?_;refine jcc (fun h218=>?_) fun h218=>?_
 ·refine jU 40010 ?_
  have e:leaveK l k=k:=by unfold leaveK;rw [if_pos (by omega)]
  rw [stay e (by omega),e]
  exact end_pack (gd:=fun z:Nat×Option Nat=>z.1) (E:=rdE l k) (.inr rfl) _ (n,gl) [0,1] (by decide) rfl (res_0 rfl) ⟨rfl,rfl⟩
 refine jU 51216 ?_;refine jcc (fun h219=>?_) fun h219=>?_
 ·refine jU 1200 ?_;refine jq (jrde 23) ?_;refine jU 10040 ?_
  refine jqm (jmstF 1 (fl [.os 1 gl 0 l.length 1,.err 24]) ?_ ?_)
  ·exact (fun j hj=>by rcases j with _|_|j <;> exact cZ)
  refine jU 4005 ?_
  have e:leaveK l k=24:=by unfold leaveK;rw [if_neg (by omega),if_pos (by omega)]
  rw [stay e (by omega),e]
  exact end_pack (gd:=fun z:Nat×Option Nat=>z.1) (E:=rdE l 24) (.inr rfl) _ (n,gl) [0,1] (by decide) rfl (res_0 rfl) ⟨rfl,rfl⟩
 refine jU 150904016 ?_;refine jq (jri (i:=(l.length-1)) (hz:=by omega)) ?_;refine jU 512350 ?_;refine jcc (fun h221=>?_) fun h221=>?_
 ·refine jU 1200 ?_;refine jq (jrde 3) ?_;refine jU 10040 ?_
  refine jqm (jmstF 1 (fl [.os 1 gl 0 l.length 1,.err 4]) ?_ ?_)
  ·exact (fun j hj=>by rcases j with _|_|j <;> exact cZ)
  refine jU 4005 ?_
  have e:leaveK l k=4:=by unfold leaveK;rw [if_neg (by omega),if_neg (by omega),if_pos (by unfold nowL;omega)]
  rw [stay e (by omega),e]
  exact end_pack (gd:=fun z:Nat×Option Nat=>z.1) (E:=rdE l 4) (.inr rfl) _ (n,gl) [0,1] (by decide) rfl (res_0 rfl) ⟨rfl,rfl⟩
 refine jU 150904011200 ?_;refine jq jrso ?_;refine jU 9040 ?_
 have hk0:k=0:=by omega
 refine seq_ent (weakH 1 (l.length-1) (lbF (l.take (l.length-1))) rfl (by omega) (fun j hj=>lbF_take hj)) ?_
 refine jqm (jmstF 1 (fl [.os 1 gl 0 (l.length-1) 1,.err 0]) ?_ ?_)
 ·exact (fun j hj=>by rcases j with _|_|j <;> first|exact cZ|exact cO (by omega)|exact CEnt.err hk0)
 refine jU 4005 ?_
 have e:leaveK l k=0:=by unfold leaveK;rw [if_neg (by omega),if_neg (by omega),if_neg (by unfold nowL;omega)]
 have e2:leaveL l k=l.take (l.length-1):=by unfold leaveL;rw [if_pos e]
 have e3:(l.take (l.length-1)).length=l.length-1:=by rw [List.length_take];omega
 rw [e2,e]
 exact end_pack (gd:=fun z:Nat×Option Nat=>z.1) (E:=rdE (l.take (l.length-1)) 0) (.inr rfl) _ (n,gl) [0,1] (by decide) (by unfold rdE;rw [e3];rfl) (res_0 rfl) ⟨rfl,rfl⟩
def endK (l:List (List UInt8)) (k:Nat):Nat:=if k≠0 then k else if 1<l.length then 24 else if 0<(l.getD 0 []).length then 4 else 0
theorem end08_ac (n:Nat) (l:List (List UInt8)) (k:Nat) (hl:0<l.length∧l.length≤1000000):AC gs Tryz.prog 68 [rdO n l k] [.op 0 (some n) 0]
  (fun r H'=>r=.err (endK l k)∧H'=[rdO n l k]):=by
 refine ac_of 31 Tryz.func68 rfl rfl rfl (fun al w0 F0 St0=>?_)
 refine jU 207516 ?_;refine code_openR 0 rfl fun gl=>?_;refine jU 51500000501004016 ?_;refine jcc (fun h292=>?_) fun h292=>?_
 ·refine jU 30005000700051501004016 ?_
  exact end_packV (gd:=fun z:Nat×Option Nat=>z.1) (E:=rdE l k) (.inl rfl) (n,gl) [0,1] (by decide) rfl (res_1 rfl (arv_tmp rfl)) (CEnt.err (by unfold endK;rw [if_pos (by omega)]))
 refine jU 512350904016 ?_;refine jcc (fun h294=>?_) fun h294=>?_
 ·refine jcr ?_;refine jq (jrde 23) ?_;refine jU 30005000700051 ?_
  exact end_packV (gd:=fun z:Nat×Option Nat=>z.1) (E:=rdE l k) (.inl rfl) (n,gl) [0,1] (by decide) rfl (res_1 rfl (arv_tmp rfl)) (CEnt.err (by unfold endK;rw [if_neg (by omega),if_pos (by omega)]))
 refine jU 512350200000050904016 ?_;refine jcc (fun h296=>?_) fun h296=>?_
 ·refine jcr ?_;refine jq (jrde 3) ?_;refine jU 30005000700051 ?_
  exact end_packV (gd:=fun z:Nat×Option Nat=>z.1) (E:=rdE l k) (.inl rfl) (n,gl) [0,1] (by decide) rfl (res_1 rfl (arv_tmp rfl)) (CEnt.err (by unfold endK;rw [if_neg (by omega),if_neg (by omega),if_pos (by omega)]))
 refine jU 7000516840010 ?_
 have e:endK l k=0:=by unfold endK;rw [if_neg (by omega),if_neg (by omega),if_neg (by omega)]
 rw [e]
 exact end_packV (gd:=fun z:Nat×Option Nat=>z.1) (E:=rdE l k) (.inl rfl) (n,gl) [0,1] (by decide) rfl (res_1 rfl (arv_tmp rfl)) CEnt.nil
end
section
variable {gs:List Nat} [Ok9 gs]

theorem nextR_is {tag:Int} {l:List (List UInt8)} {k:Nat} (h:(nextR tag l k).is=true):(nextR tag l k).k=0∧(nextR tag l k).body.length≤65530:=by
 have hb:=nextM_bd (nowL l)
 unfold nextR at h ⊢
 split
 ·rename_i h1;rw [if_pos h1] at h;cases h
 ·rename_i h1;rw [if_neg h1] at h
  split
  ·rename_i h2;rw [if_pos h2] at h;cases h
  ·rename_i h2;rw [if_neg h2] at h
   split
   ·rename_i h3;rw [if_pos h3] at h;cases h
   ·exact ⟨rfl,hb.2.2.1⟩
def valK (tag:Int) (l:List (List UInt8)) (k:Nat) (e:List UInt8→Nat):Nat:=if (nextR tag l k).is=true then e (nextR tag l k).body else (nextR tag l k).k
theorem nextR_len {tag:Int} {l:List (List UInt8)} {k:Nat}:(nextR tag l k).l.length=l.length:=by
 unfold nextR
 split
 ·rfl
 ·split
  ·rfl
  ·split
   ·rfl
   ·simp
theorem valueI_ac {gs:List Nat} [Ok9 gs] {f:FuncId} {m:Nat} {fv:Nat→CV} (hc:calleeB Tryz.prog f=true) (n:Nat) (l:List (List UInt8)) (k:Nat) (tag:Int) (get:List UInt8→Int×Nat) (hl:0<l.length∧l.length≤1000000) (hb:(nowL l).length≤10000000) (hp:∀ b:List UInt8,b.length≤65530→ACp gs Tryz.prog f (bsC b::(List.range m).map fv) (.tup 2 (fl [.c (.int .i64 (get b).1),.err (get b).2]))) :
  AC gs Tryz.prog 182 [rdO n l k] [.op 0 (some n) 0,.c (.int .i64 tag),.fn f m fv]
   (fun r H'=>r=.c (.int .i64 (if (nextR tag l k).is=true∧(get (nextR tag l k).body).2=0 then (get (nextR tag l k).body).1 else 0))∧H'=[rdO n (nextR tag l k).l (valK tag l k fun b=>(get b).2)]):=by
 have hln:(nextR tag l k).l.length=l.length:=nextR_len
 refine ac_of 38 Tryz.func182 rfl rfl rfl (fun al w0 F0 St0=>?_)
 refine jU 116516516 ?_
 refine jqm (jmcH 0 (nextR_ac n l k tag hl hb) ?_)
 rintro _ _ ⟨rfl,rfl⟩
 refine ⟨_,_,rfl,cZ,?_⟩
 refine jU 9009009001 ?_
 refine jqe (jeal (n:=2) zr199 rfl fun p2=>?_)
 refine jqm (jmst 2 ?_)
 refine jU 530167511 ?_;refine jcc (fun h232=>?_) fun h232=>?_
 ·refine jU 300070005116 ?_
  rw [if_neg (by simp_all)]
  have e:(valK tag l k fun b=>(get b).2)=(nextR tag l k).k:=by unfold valK;rw [if_neg (by simpa using h232)]
  rw [e]
  exact end_H (.inl rfl) rfl (res_1 rfl (arv_tmp rfl)) cZ
 refine jU 810 ?_
 have his:=nextR_is (by simpa using h232)
 refine jU 5010016 ?_
 refine jqe (e_callV rfl rfl (by assumption) (hp (nextR tag l k).body his.2) (entL_fn cZ _) rfl rfl ?_)
 rintro _ _ ⟨rfl,rfl⟩
 refine jU 55000001675119009001 ?_;refine jcc (fun h236=>?_) fun h236=>?_
 rotate_left
 ·refine jU 70005116810 ?_
  have h0:(get (nextR tag l k).body).2=0:=by omega
  rw [if_pos ⟨by simpa using h232,h0⟩]
  have e:(valK tag l k fun b=>(get b).2)=(nextR tag l k).k:=by unfold valK;rw [if_pos (by simpa using h232),his.1];exact h0
  rw [e]
  exact end_H (.inl rfl) rfl (res_1 rfl (arv_tmp rfl)) cZ
 refine code_openR 0 rfl fun gl=>?_;refine jU 10040116 ?_
 refine jqm (jmst 1 ?_)
 refine jU 5 ?_;refine jE (closeR n (get (nextR tag l k).body).2 (nextR tag l k).l 0 2 rfl rfl rfl (cO rfl) cZ (Nat.le_refl _) (fun _ _=>cZ)) ?_;refine jU 300070005116 ?_
 rw [if_neg (by omega)]
 have e:(valK tag l k fun b=>(get b).2)=(get (nextR tag l k).body).2:=by unfold valK;rw [if_pos (by simpa using h232)]
 rw [e]
 exact end_H (.inl rfl) rfl (res_1 rfl (arv_tmp rfl)) cZ
theorem CEnt.fn2' {k:FuncId} {f g:Nat→CV} (h0:CEnt (f 0) (g 0)) (h1:CEnt (f 1) (g 1)):CEnt (.fn k 2 f) (.fn k 2 g):=fun al St w v ⟨cs,k1,k2,k3⟩=>⟨cs,k1,k2,fun i hi=>by
 rcases i with _|_|i
 ·exact h0 _ _ _ _ (k3 0 (by omega))
 ·exact h1 _ _ _ _ (k3 1 (by omega))
 ·omega⟩
theorem int_box {z:Int}:∀ j,j<1→CEnt (fl [CV.c (.int .i64 z)] (0+j)) (CV.c (.int .i64 z)):=fun j hj=>by
 obtain rfl:j=0:=by omega
 exact cZ
def twoF (a b:Int):Nat→CV:=fl [.rp 1 fun _=>.c (.int .i64 a),.rp 1 fun _=>.c (.int .i64 b)]
theorem intG_ac (least most:Int) (b:List UInt8):ACp gs Tryz.prog 183 (bsC b::(List.range 2).map (twoF least most)) (.tup 2 (fl [.c (.int .i64 (rangeM b least most).1),.err (rangeM b least most).2])):=by
 refine ac_of 12 Tryz.func183 rfl rfl rfl (fun al w0 F0 St0=>?_)
 refine jU 6060165116 ?_
 refine jqe (jecP (wrange_ac b least most) ?_)
 refine jU 511900900 ?_
 refine jR jrt
theorem int08_ac (n:Nat) (l:List (List UInt8)) (k:Nat) (least most:Int) (hl:0<l.length∧l.length≤1000000) (hb:(nowL l).length≤10000000) :
  AC gs Tryz.prog 114 [rdO n l k] [.op 0 (some n) 0,.c (.int .i64 least),.c (.int .i64 most)]
   (fun r H'=>r=.c (.int .i64 (if (nextR 2 l k).is=true∧(rangeM (nextR 2 l k).body least most).2=0 then (rangeM (nextR 2 l k).body least most).1 else 0))∧H'=[rdO n (nextR 2 l k).l (valK 2 l k fun b=>(rangeM b least most).2)]):=by
 refine ac_of 10 Tryz.func114 rfl rfl rfl (fun al w0 F0 St0=>?_)
 refine jcr ?_
 refine jqe (jebx 1 fun p1=>?_)
 refine jqe (jebx 1 fun p2=>?_)
 refine jU 51 ?_;refine jE (freeze 1 rfl) ?_;refine jE (freeze 2 rfl) ?_;refine jE (thawP 4 (m:=1) rfl rfl (by decide)) ?_;refine jE (thawP 5 (m:=1) rfl rfl (by decide)) ?_;refine jU 16 ?_;refine jq jrmf ?_
 refine jqm (jmcH 0 (valueI_ac (fv:=twoF least most) (by kernel_rfl) n l k 2 (fun b=>rangeM b least most) hl hb (fun b _=>intG_ac least most b)) ?_ (ho:=rfl) (he:=(.cons (se rfl cP) (.cons (se rfl cZ) (.cons (se rfl (CEnt.fn2' (CEnt.rp int_box) (CEnt.rp int_box))) .nil)))))
 rintro _ _ ⟨rfl,rfl⟩
 refine ⟨_,_,rfl,cZ,?_⟩
 refine jU 700051 ?_
 exact end_H (.inl rfl) rfl (res_1 rfl (arv_tmp rfl)) cZ
end
section
variable {gs:List Nat} [Ok9 gs]

theorem read08_ac (b:List UInt8) (hb:b.length≤10000000):AC gs Tryz.prog 63 [] [bsC b] (fun r H'=>∃ n,r=.op 0 (some n) 0∧H'=[rdO n [b] (depthM b).2]):=by
 refine ac_of 10 Tryz.func63 rfl rfl rfl (fun al w0 F0 St0=>?_)
 refine jU 16516 ?_
 refine jqe (jecP (clone8_ac b (by omega)) ?_)
 refine jqe (jebl 1 1 zr22 fun p1=>?_)
 refine jU 1 ?_
 refine jqe (jecP (check_ac b hb) ?_)
 refine jq (rd_build (n:=2) rfl zr197 pl197 rfl rfl) ?_
 refine jqe (jebx 2 fun p2=>?_)
 refine jU 51 ?_;refine code_knowG (know_op 2 rfl) fun hn=>?_
 obtain ⟨n,rfl⟩:=hn
 refine jE (closeR n (depthM b).2 [b] 1 0 rfl rfl rfl (cO rfl) cZ (Nat.le_refl _) (fun a ha=>by obtain rfl:a=0:=(by simpa using ha);exact cZ)) ?_;refine jU 7000 ?_
 exact end_ownV (.inl rfl) [1] (by decide) rfl (res_1 rfl (arv_tmp rfl)) (cP (j:=0)) ⟨n,rfl,rfl⟩
end
section
variable {gs:List Nat} [Ok9 gs]

theorem valueL_ac {gs:List Nat} [Ok9 gs] {f:FuncId} {m:Nat} {fv:Nat→CV} (hc:calleeB Tryz.prog f=true) (n:Nat) (l:List (List UInt8)) (k:Nat) (tag:Int) (get:List UInt8→(List UInt8)×Nat) (hl:0<l.length∧l.length≤1000000) (hb:(nowL l).length≤10000000) (hp:∀ b:List UInt8,b.length≤65530→ACp gs Tryz.prog f (bsC b::(List.range m).map fv) (.tup 2 (fl [bsC (get b).1,.err (get b).2]))) :
  AC gs Tryz.prog 139 [rdO n l k] [.op 0 (some n) 0,.c (.int .i64 tag),.fn f m fv]
   (fun r H'=>r=bsC (if (nextR tag l k).is=true∧(get (nextR tag l k).body).2=0 then (get (nextR tag l k).body).1 else [])∧H'=[rdO n (nextR tag l k).l (valK tag l k fun b=>(get b).2)]):=by
 have hln:(nextR tag l k).l.length=l.length:=nextR_len
 refine ac_of 38 Tryz.func139 rfl rfl rfl (fun al w0 F0 St0=>?_)
 refine jU 116516516 ?_
 refine jqm (jmcH 0 (nextR_ac n l k tag hl hb) ?_)
 rintro _ _ ⟨rfl,rfl⟩
 refine ⟨_,_,rfl,cZ,?_⟩
 refine jU 9009009001 ?_
 refine jqe (jeal (n:=2) zr199 rfl fun p2=>?_)
 refine jqm (jmst 2 ?_)
 refine jU 530167511 ?_;refine jcc (fun h232=>?_) fun h232=>?_
 ·refine jU 300070005116 ?_
  rw [if_neg (by simp_all)]
  have e:(valK tag l k fun b=>(get b).2)=(nextR tag l k).k:=by unfold valK;rw [if_neg (by simpa using h232)]
  rw [e]
  exact end_H (.inl rfl) rfl (res_1 rfl (arv_tmp rfl)) (by exact cN)
 refine jU 810 ?_
 have his:=nextR_is (by simpa using h232)
 refine jU 5010016 ?_
 refine jqe (e_callV rfl rfl (by assumption) (hp (nextR tag l k).body his.2) (entL_fn cZ _) rfl rfl ?_)
 rintro _ _ ⟨rfl,rfl⟩
 refine jU 55000001675119009001 ?_;refine jcc (fun h236=>?_) fun h236=>?_
 rotate_left
 ·refine jU 70005116810 ?_
  have h0:(get (nextR tag l k).body).2=0:=by omega
  rw [if_pos ⟨by simpa using h232,h0⟩]
  have e:(valK tag l k fun b=>(get b).2)=(nextR tag l k).k:=by unfold valK;rw [if_pos (by simpa using h232),his.1];exact h0
  rw [e]
  exact end_H (.inl rfl) rfl (res_1 rfl (arv_tmp rfl)) (by exact cZ)
 refine code_openR 0 rfl fun gl=>?_;refine jU 10040116 ?_
 refine jqm (jmst 1 ?_)
 refine jU 5 ?_;refine jE (closeR n (get (nextR tag l k).body).2 (nextR tag l k).l 0 2 rfl rfl rfl (cO rfl) cZ (Nat.le_refl _) (fun _ _=>cZ)) ?_;refine jU 300070005116 ?_
 rw [if_neg (by omega)]
 have e:(valK tag l k fun b=>(get b).2)=(get (nextR tag l k).body).2:=by unfold valK;rw [if_pos (by simpa using h232)]
 rw [e]
 exact end_H (.inl rfl) rfl (res_1 rfl (arv_tmp rfl)) (by exact cN)
theorem valueS_ac {gs:List Nat} [Ok9 gs] {f:FuncId} {m:Nat} {fv:Nat→CV} (hc:calleeB Tryz.prog f=true) (n:Nat) (l:List (List UInt8)) (k:Nat) (tag:Int) (get:List UInt8→(List UInt8)×Nat) (hl:0<l.length∧l.length≤1000000) (hb:(nowL l).length≤10000000) (hp:∀ b:List UInt8,b.length≤65530→ACp gs Tryz.prog f (bsC b::(List.range m).map fv) (.tup 2 (fl [strC (get b).1,.err (get b).2]))) :
  AC gs Tryz.prog 194 [rdO n l k] [.op 0 (some n) 0,.c (.int .i64 tag),.fn f m fv]
   (fun r H'=>r=strC (if (nextR tag l k).is=true∧(get (nextR tag l k).body).2=0 then (get (nextR tag l k).body).1 else [])∧H'=[rdO n (nextR tag l k).l (valK tag l k fun b=>(get b).2)]):=by
 have hln:(nextR tag l k).l.length=l.length:=nextR_len
 refine ac_of 38 Tryz.func194 rfl rfl rfl (fun al w0 F0 St0=>?_)
 refine jU 116516516 ?_
 refine jqm (jmcH 0 (nextR_ac n l k tag hl hb) ?_)
 rintro _ _ ⟨rfl,rfl⟩
 refine ⟨_,_,rfl,cZ,?_⟩
 refine jU 9009009001 ?_
 refine jqe (jeal (n:=2) zr199 rfl fun p2=>?_)
 refine jqm (jmst 2 ?_)
 refine jU 530167511 ?_;refine jcc (fun h232=>?_) fun h232=>?_
 ·refine jU 300070005116 ?_
  rw [if_neg (by simp_all)]
  have e:(valK tag l k fun b=>(get b).2)=(nextR tag l k).k:=by unfold valK;rw [if_neg (by simpa using h232)]
  rw [e]
  exact end_H (.inl rfl) rfl (res_1 rfl (arv_tmp rfl)) cZ
 refine jU 810 ?_
 have his:=nextR_is (by simpa using h232)
 refine jU 5010016 ?_
 refine jqe (e_callV rfl rfl (by assumption) (hp (nextR tag l k).body his.2) (entL_fn cZ _) rfl rfl ?_)
 rintro _ _ ⟨rfl,rfl⟩
 refine jU 55000001675119009001 ?_;refine jcc (fun h236=>?_) fun h236=>?_
 rotate_left
 ·refine jU 70005116810 ?_
  have h0:(get (nextR tag l k).body).2=0:=by omega
  rw [if_pos ⟨by simpa using h232,h0⟩]
  have e:(valK tag l k fun b=>(get b).2)=(nextR tag l k).k:=by unfold valK;rw [if_pos (by simpa using h232),his.1];exact h0
  rw [e]
  exact end_H (.inl rfl) rfl (res_1 rfl (arv_tmp rfl)) cZ
 refine code_openR 0 rfl fun gl=>?_;refine jU 10040116 ?_
 refine jqm (jmst 1 ?_)
 refine jU 5 ?_;refine jE (closeR n (get (nextR tag l k).body).2 (nextR tag l k).l 0 2 rfl rfl rfl (cO rfl) cZ (Nat.le_refl _) (fun _ _=>cZ)) ?_;refine jU 300070005116 ?_
 rw [if_neg (by omega)]
 have e:(valK tag l k fun b=>(get b).2)=(get (nextR tag l k).body).2:=by unfold valK;rw [if_pos (by simpa using h232)]
 rw [e]
 exact end_H (.inl rfl) rfl (res_1 rfl (arv_tmp rfl)) cZ
theorem enum08_ac (n:Nat) (l:List (List UInt8)) (k:Nat) (least most:Int) (hl:0<l.length∧l.length≤1000000) (hb:(nowL l).length≤10000000) :
  AC gs Tryz.prog 145 [rdO n l k] [.op 0 (some n) 0,.c (.int .i64 least),.c (.int .i64 most)]
   (fun r H'=>r=.c (.int .i64 (if (nextR 10 l k).is=true∧(rangeM (nextR 10 l k).body least most).2=0 then (rangeM (nextR 10 l k).body least most).1 else 0))∧H'=[rdO n (nextR 10 l k).l (valK 10 l k fun b=>(rangeM b least most).2)]):=by
 have g:∀ b,ACp gs Tryz.prog 204 (bsC b::(List.range 2).map (twoF least most)) (.tup 2 (fl [.c (.int .i64 (rangeM b least most).1),.err (rangeM b least most).2])):=fun b=>by
  refine ac_of 12 Tryz.func204 rfl rfl rfl (fun al w0 F0 St0=>?_)
  refine jU 6060165116 ?_
  refine jqe (jecP (wrange_ac b least most) ?_)
  refine jU 511900900 ?_
  refine jR jrt
 refine ac_of 10 Tryz.func145 rfl rfl rfl (fun al w0 F0 St0=>?_)
 refine jcr ?_
 refine jqe (jebx 1 fun p1=>?_)
 refine jqe (jebx 1 fun p2=>?_)
 refine jU 51 ?_;refine jE (freeze 1 rfl) ?_;refine jE (freeze 2 rfl) ?_;refine jE (thawP 4 (m:=1) rfl rfl (by decide)) ?_;refine jE (thawP 5 (m:=1) rfl rfl (by decide)) ?_;refine jU 16 ?_;refine jq jrmf ?_
 refine jqm (jmcH 0 (valueI_ac (fv:=twoF least most) (by kernel_rfl) n l k 10 (fun b=>rangeM b least most) hl hb (fun b _=>g b)) ?_ (ho:=rfl) (he:=(.cons (se rfl cP) (.cons (se rfl cZ) (.cons (se rfl (CEnt.fn2' (CEnt.rp int_box) (CEnt.rp int_box))) .nil)))))
 rintro _ _ ⟨rfl,rfl⟩
 refine ⟨_,_,rfl,cZ,?_⟩
 refine jU 700051 ?_
 exact end_H (.inl rfl) rfl (res_1 rfl (arv_tmp rfl)) cZ
end
section
def ssF (ls:List (List UInt8)) (j:Nat):CV:=strC (ls.getD j [])
def ssC (ls:List (List UInt8)):CV:=.rs 1 ls.length fun i _=>strC (ls.getD i [])
theorem rowC_ss:RowC 1 ssF:=fun l l2 j hj=>by
 simp only [ssF,List.getD_eq_getElem?_getD]
 split
 ·rw [List.getElem?_append_left (by omega)]
 ·rw [List.getElem?_append_right (by omega),Nat.mul_one]
theorem ss_thaw {ls:List (List UInt8)}:∀ a b,a<ls.length→b<1→CEnt (ssF ls (0+(a * 1+b))) (strC (ls.getD a [])):=fun a b ha hb=>CEnt.of_eq (by rw [show 0+(a * 1+b)=a by omega];rfl)

theorem join_ac {gs:List Nat} (ls:List (List UInt8)) (sep:List UInt8) (h1:ls.length≤1000000000) (h2:(Lib.join ls sep).length≤100000000000):ACp gs Tryz.prog 293 [ssC ls,strC sep] (strC (Lib.join ls sep)) :=
 ac_old fun al w St vals hs hv hr=>by
  obtain ⟨ao,cap,k1,k2,k3,k4,k5⟩:=hr 0
  rw [vals2 hv,show vals.getD 0 undef=.slice ao ls.length cap from k1,show vals.getD 1 undef=.string ⟨sep.toArray⟩ from hr 1]
  by_cases hn:ls=[]
  ·subst hn
   exact (Tryz.strings_Join_none ao cap _ w).mono (by rintro e w' ⟨rfl,rfl⟩;exact ⟨rfl,Below.refl _ _⟩)
  ·have hp:0<ls.length:=List.length_pos_iff.2 hn
   obtain ⟨a,rfl⟩:∃ a,ao=some a:=by
    cases ao with
    | none=>have:=k4 rfl;omega
    | some a=>exact ⟨a,rfl⟩
   obtain ⟨e1,e2,e3⟩:=k5 a rfl hp
   obtain ⟨bk,o,sp⟩:=a
   obtain rfl:sp=none:=e1
   have hm:(ls.map fun l=>(⟨l.toArray⟩:ByteArray)).map (·.data.toList)=ls:=by
    rw [List.map_map]
    exact (List.map_congr_left fun x _=>by simp).trans (List.map_id ls)
   have hc:∀ (j:Nat) x,(ls.map fun l=>(⟨l.toArray⟩:ByteArray))[j]?=some x→w.cell? ⟨bk,o+j,none⟩=some (.string x):=fun j x hx=>by
    rw [List.getElem?_map] at hx
    obtain ⟨y,hy,rfl⟩:=Option.map_eq_some_iff.1 hx
    have hj:j<ls.length:=(List.getElem?_eq_some_iff.1 hy).1
    obtain ⟨v,hv1,hv2⟩:=e3 j 0 hj (by omega)
    rw [show o+(j * 1+0)=o+j by omega] at hv1
    rw [hv1]
    have:v=.string ⟨(ls.getD j []).toArray⟩:=hv2
    rw [this,List.getD_eq_getElem?_getD,hy];rfl
   have hb:bk<w.heap.size:=by
    obtain ⟨v,hv1,hv2⟩:=e3 0 0 hp (by omega)
    exact World.block_lt_of_cell? w _ hv1
   have hj:=Tryz.strings_Join bk o cap (ls.map fun l=>(⟨l.toArray⟩:ByteArray)) ⟨sep.toArray⟩ w hc hb (by rw [List.length_map];omega) (by rw [List.length_map];exact k2) (by rw [hm];show (Lib.join ls sep).length≤_;omega)
   rw [hm,List.length_map] at hj
   exact hj
end
section
variable {gs:List Nat} [Ok2 gs]

def inR (n:Int):Bool:=decide (0≤n) && decide (n≤2147483647)
theorem rightA_not {l:List Int} (h:(l.length:Int)<2∨(16:Int)<l.length∨l.getD 0 0<0∨2<l.getD 0 0∨(l.getD 0 0<2∧39<l.getD 1 0)∨l.all inR=false):rightA l=false:=by
 cases e:rightA l with
 | false=>rfl
 | true =>
  obtain ⟨h1,h2,h3,h4,h5⟩:=right_at e
  rcases h with h|h|h|h|h|h
  ·omega
  ·omega
  ·have:=h3 _ (getD_mem' (l:=l) (k:=0) 0 (by omega));omega
  ·omega
  ·omega
  ·have:l.all inR=true:=List.all_eq_true.2 fun n hn=>by have:=h3 n hn;unfold inR;simp;omega
   rw [this] at h;cases h
theorem rightA_yes {l:List Int} (h1:¬ (l.length:Int)<2) (h2:¬ (16:Int)<l.length) (h3:¬ 2<l.getD 0 0) (h4:¬ (l.getD 0 0<2∧39<l.getD 1 0)) (h5:l.all inR=true):rightA l=true:=by
 unfold rightA
 have e:l.all (fun n=>decide (0≤n) && decide (n≤2147483647))=true:=h5
 rw [e,decide_eq_true (show 2≤l.length by omega),decide_eq_true (show l.length≤16 by omega),decide_eq_true (show l.getD 0 0≤2 by omega)]
 by_cases h6:l.getD 0 0=2
 ·rw [decide_eq_true h6];rfl
 ·rw [decide_eq_true (show l.getD 1 0<40 by omega),Bool.or_true];rfl
theorem inR_yes {n:Int} (h1:¬ n<0) (h2:¬ 2147483647<n):inR n=true:=by
 unfold inR
 simp only [Bool.and_eq_true,decide_eq_true_eq]
 omega
theorem inR_no {n:Int} (h:n<0∨2147483647<n):inR n=false:=by
 cases e:inR n with
 | false=>rfl
 | true =>
  unfold inR at e
  simp only [Bool.and_eq_true,decide_eq_true_eq] at e
  omega
theorem figR_two (p:List UInt8):((figR p).2=true↔(figM p).2=0)∧((figR p).2=true→(figR p).1=(figM p).1):=by
 unfold figR
 split
 ·rename_i h;exact ⟨⟨fun _=>h,fun _=>rfl⟩,fun _=>rfl⟩
 ·rename_i h;exact ⟨⟨fun e=>(by cases e),fun e=>absurd e h⟩,fun e=>(by cases e)⟩
theorem okP_bad {p:List UInt8} (h:(figR p).2=false∨(10:Int)<p.length):okP p=false:=by
 cases e:okP p with
 | false=>rfl
 | true =>
  unfold okP at e
  simp only [Bool.and_eq_true,decide_eq_true_eq] at e
  have:=(figR_two p).1.2 e.1
  rcases h with h|h
  ·rw [h] at this;cases this
  ·omega
theorem okP_good {p:List UInt8} (h:(figR p).2=true) (h2:¬ (10:Int)<p.length):okP p=true∧((figR p).1:Int)=valP p:=by
 refine ⟨?_,by rw [(figR_two p).2 h];rfl⟩
 unfold okP
 simp only [Bool.and_eq_true,decide_eq_true_eq]
 exact ⟨(figR_two p).1.1 h,by omega⟩
theorem take_allO {α:Type} {p:α→Bool} {l:List α} {i:Nat} (d:α) (h:i<l.length) (h1:(l.take i).all p=true) (h2:p (l.getD i d)=true):(l.take (i+1)).all p=true:=by
 rw [take_get d h,List.all_append,h1,List.all_cons,h2]
 rfl
theorem rright5_ac {gs:List Nat} (l:List Int):ACp gs Tryz.prog 244 [isC l] (.c (.bool (rightA l))):=by
 refine ac_len 0 rfl fun hlen=>?_
 refine ac_of 50 Tryz.func244 rfl rfl rfl (fun al w0 F0 St0=>?_)
 refine jU 123167516 ?_;refine jqsp 8 (fun g11=>?_) fun g11=>?_
 ·refine jU 516900058000444444444418000444418000444418000444 ?_
  refine jR (jtr (jrt (hv:=?_)))
  refine cB ?_
  refine (rightA_not ?_).symm
  omega
 refine jU 1500231 ?_;refine jqsp 13 (fun g11_2=>?_) fun g11_2=>?_
 ·refine jU 5169000580004444444444180004444180004444 ?_
  refine jR (jtr (jrt (hv:=?_)))
  refine cB ?_
  refine (rightA_not ?_).symm
  omega
 refine jU 150026020000001 ?_;refine jqsp 19 (fun g11_3=>?_) fun g11_3=>?_
 ·refine jU 5169000580004444444444180004444 ?_
  refine jR (jtr (jrt (hv:=?_)))
  refine cB ?_
  refine (rightA_not ?_).symm
  omega
 refine jU 150026020000001 ?_;refine jqsp 25 (fun g11_4=>?_) fun g11_4=>?_
 ·refine jU 5169000580004444444444 ?_
  refine jR (jtr (jrt (hv:=?_)))
  refine cB ?_
  refine (rightA_not ?_).symm
  omega
 refine jU 126020000001 ?_;refine jqsp 30 (fun g11_5=>?_) fun g11_5=>?_
 rotate_left
 ·refine jU 2051316781030055005004444 ?_;refine l_loop (α:=Nat) [2,4,39,40,41,42,43,44,45,46,47,48,49] (fun i=>[(39,.c (.int .i64 (i:Nat)))]) (fun _=>[]) (fun i=>i≤l.length∧(l.take i).all inR=true) (fun i=>l.length-i) (0) ?_ (fun _=>rfl) ?_ ?_ ?_
  ·exact ⟨Nat.zero_le _,rfl⟩
  ·(repeat (first|exact EntE.nil|refine EntE.cons cZ ?_))
  ·(repeat (exact HEnt.nil))
  ·rintro i ⟨(hi:i≤l.length),hall⟩
   refine jU 7526 ?_;refine jcc (fun h14=>?_) fun h14=>?_
   rotate_left
   ·refine jU 51684000200020006000 ?_
    refine jR (jrt (hv:=?_))
    refine cB ?_
    rw [show i=l.length by omega,List.take_length] at hall
    exact (rightA_yes (by omega) (by omega) (by omega) (by omega) hall).symm
   refine jU 121651607006207810 ?_;refine jqsp 45 (fun g15=>?_) fun g15=>?_
   ·refine jU 51690005800044 ?_
    refine jR (jbr (jtr (jtr (jbr (jtr (jrt (hv:=?_)))))))
    refine cB ?_
    exact (rightA_not (.inr (.inr (.inr (.inr (.inr (all_false (k:=i) 0 (by omega) (inR_no (by omega))))))))).symm
   refine jU 550021 ?_;refine jcc (fun h15=>?_) fun h15=>?_
   ·refine jU 516 ?_
    refine jR (jbr (jtr (jtr (jbr (jtr (jrt (hv:=?_)))))))
    refine cB ?_
    exact (rightA_not (.inr (.inr (.inr (.inr (.inr (all_false (k:=i) 0 (by omega) (inR_no (by omega))))))))).symm
   refine jU 8519200840010 ?_;refine jlend (i+1) ?_ ?_
   ·exact ⟨by omega,take_allO 0 (by omega) hall (inR_yes (by omega) (by omega))⟩
   ·show l.length-(i+1)<l.length-i;omega
 refine jU 1 ?_;refine jq (jri (i:=1)) ?_;refine jU 55008000260 ?_;refine jcc (fun h11=>?_) fun h11=>?_
 ·refine jU 516 ?_
  refine jR (jtr (jrt (hv:=?_)))
  refine cB ?_
  refine (rightA_not ?_).symm
  omega
 refine jU 20513167810 ?_;refine l_loop (α:=Nat) [2,4,39,40,41,42,43,44,45,46,47,48,49] (fun i=>[(39,.c (.int .i64 (i:Nat)))]) (fun _=>[]) (fun i=>i≤l.length∧(l.take i).all inR=true) (fun i=>l.length-i) (0) ?_ (fun _=>rfl) ?_ ?_ ?_
 ·exact ⟨Nat.zero_le _,rfl⟩
 ·(repeat (first|exact EntE.nil|refine EntE.cons cZ ?_))
 ·(repeat (exact HEnt.nil))
 ·rintro i ⟨(hi:i≤l.length),hall⟩
  refine jU 7526 ?_;refine jcc (fun h14=>?_) fun h14=>?_
  rotate_left
  ·refine jU 51684000200020006000 ?_
   refine jR (jrt (hv:=?_))
   refine cB ?_
   rw [show i=l.length by omega,List.take_length] at hall
   exact (rightA_yes (by omega) (by omega) (by omega) (by omega) hall).symm
  refine jU 121651607006207810 ?_;refine jqsp 45 (fun g15=>?_) fun g15=>?_
  ·refine jU 51690005800044 ?_
   refine jR (jbr (jtr (jtr (jbr (jtr (jrt (hv:=?_)))))))
   refine cB ?_
   exact (rightA_not (.inr (.inr (.inr (.inr (.inr (all_false (k:=i) 0 (by omega) (inR_no (by omega))))))))).symm
  refine jU 550021 ?_;refine jcc (fun h15=>?_) fun h15=>?_
  ·refine jU 516 ?_
   refine jR (jbr (jtr (jtr (jbr (jtr (jrt (hv:=?_)))))))
   refine cB ?_
   exact (rightA_not (.inr (.inr (.inr (.inr (.inr (all_false (k:=i) 0 (by omega) (inR_no (by omega))))))))).symm
  refine jU 8519200840010 ?_;refine jlend (i+1) ?_ ?_
  ·exact ⟨by omega,take_allO 0 (by omega) hall (inR_yes (by omega) (by omega))⟩
  ·show l.length-(i+1)<l.length-i;omega

theorem split_stepO {c:UInt8} {s:List UInt8} {a i:Nat} (hai:a≤i) (hi:i<s.length) (hno:c ∉ (s.take i).drop a) (hc:s.getD i 0=c):splitC c (s.drop a)=(s.take i).drop a::splitC c (s.drop (i+1)):=by
 have e:s.drop a=(s.take i).drop a++c::s.drop (i+1):=by
  have h1:s=s.take i++s.drop i:=(List.take_append_drop i s).symm
  have h2:s.drop i=c::s.drop (i+1):=by
   rw [List.drop_eq_getElem_cons hi,← hc]
   simp [List.getD,hi]
  conv=>lhs;rw [h1,List.drop_append_of_le_length (by rw [List.length_take];omega),h2]
 rw [e,splitC_at _ hno]
theorem notin_step {c:UInt8} {s:List UInt8} {a i:Nat} (hai:a≤i) (hi:i<s.length) (hno:c ∉ (s.take i).drop a) (hc:s.getD i 0≠c):c ∉ (s.take (i+1)).drop a:=by
 rw [take_get 0 hi,List.drop_append_of_le_length (by rw [List.length_take];omega)]
 intro h
 rcases List.mem_append.1 h with h|h
 ·exact hno h
 ·exact hc (List.mem_singleton.1 h).symm
theorem u8_eqO {c d:UInt8} (h:(c.toNat:Int)=d.toNat):c=d:=UInt8.toNat_inj.1 (by omega)
theorem rsplit_ac {gs:List Nat} (s:List UInt8) (hs:s.length≤1000000000):ACp gs Tryz.prog 248 [strC s] (ssC (splitC 46 s)):=by
 have hpl:=split_len 46 s
 refine ac_of 32 Tryz.func248 rfl rfl rfl (fun al w0 F0 St0=>?_)
 refine jU 6516 ?_
 refine jqe (jebl 0 1 zr9 fun p1=>?_)
 refine jU 205167511 ?_;refine l_loop (α:=Nat×Nat×List (List UInt8)×Option Nat) [3,4,5,7,8,9,10,11,12,13,14,15,16,17,18,19,20,21,22,23,24,25] (fun (i,a,X,g)=>[(5,.c (.int .i64 (i:Nat))),(4,.c (.int .i64 (a:Nat))),(3,.os 0 g 0 X.length 1)]) (fun (i,a,X,g)=>[(g,.blk (X.length * 1) (ssF X))]) (fun (i,a,X,g)=>i≤s.length∧a≤i∧X.length≤i∧splitC 46 s=X++splitC 46 (s.drop a)∧(46:UInt8) ∉ (s.take i).drop a) (fun (i,a,X,g)=>s.length-i) ((0,0,[],p1)) ?_ (fun _=>rfl) ?_ ?_ ?_
 ·exact ⟨Nat.zero_le _,Nat.le_refl _,Nat.le_refl _,by simp,by simp⟩
 ·exact .cons cZ (.cons cZ (.cons cZ .nil))
 ·exact .blk rfl (fun j hj=>absurd hj (Nat.not_lt_zero j)) .nil
 ·rintro ⟨i,a,X,g⟩ ⟨(hi:i≤s.length),(ha:a≤i),(hX:X.length≤i),hsp,hno⟩
  refine jU 52400001167 ?_;refine jcc (fun h25=>?_) fun h25=>?_
  rotate_left
  ·refine jU 111684000200020006000 ?_;refine jq (rd_sliceLF rfl rfl Tryz.underlying9 rfl (show _=((a:Nat):Int) by omega) (by (omega))) ?_
   refine jqe (jebl 1 1 zr9 fun p2=>?_)
   refine jqm (m_appendC (rowC_ss) (l2:=[s.drop a]) rfl rfl rfl rfl (by exact Nat.le_refl _) (fun _ _=>cZ) (src_os rfl (.inl rfl) (by decide)) rfl (fun j hj=>by rcases j with _|j <;> first|exact cZ|(exfalso;simp at hj <;> omega)) Tryz.underlying82 nu82 sz9 zr9 by9 rfl (by (simp;omega)) (by (simp;omega)) (leaf_flk rfl rfl) rfl rfl rfl (fun p3=>?_))
   refine jU 51 ?_
   have hi2:i=s.length:=by omega
   rw [hi2,List.take_length] at hno
   rw [splitC_none hno] at hsp
   refine jE (freeze 0 rfl) ?_;refine jE (thaw 2 (fun b _=>strC ((X++[s.drop a]).getD b [])) rfl rfl (by omega) ss_thaw) ?_
   refine jR (jrt (hv:=?_))
   rw [hsp]
   exact cZ
  refine jU 5280000000116207810 ?_;refine jcc (fun h26=>?_) fun h26=>?_
  rotate_left
  ·refine jU 85191200840010 ?_
   refine jlend ((i+1,a,X,g)) ?_ ?_ (h5:=?_) (h7:=?_)
   ·exact ⟨by omega,by omega,by omega,hsp,notin_step ha (by omega) hno (fun e=>h26 (by rw [e];rfl))⟩
   ·show s.length-(i+1)<s.length-i;omega
   ·exact .cons (cI (by omega)) (.cons cZ (.cons cZ .nil))
   ·exact .same .nil
  refine jU 11116 ?_;refine jq (rd_sliceL rfl rfl Tryz.underlying9 (bd_some rfl (show _=((a:Nat):Int) by omega)) (bd_some rfl (show _=((i:Nat):Int) by omega)) (by (omega)) (by (omega))) ?_
  refine jqe (jebl 1 1 zr9 fun p2=>?_)
  refine jqm (m_appendC (rowC_ss) (l2:=[(s.take i).drop a]) rfl rfl rfl rfl (by exact Nat.le_refl _) (fun _ _=>cZ) (src_os rfl (.inl rfl) (by decide)) rfl (fun j hj=>by rcases j with _|j <;> first|exact cZ|(exfalso;simp at hj <;> omega)) Tryz.underlying82 nu82 sz9 zr9 by9 rfl (by (simp;omega)) (by (simp;omega)) (leaf_flk rfl rfl) rfl rfl rfl (fun p3=>?_))
  refine jU 851912008400519120051 ?_
  refine jlend ((i+1,i+1,X++[(s.take i).drop a],p3)) ?_ ?_ (h5:=?_) (h7:=?_)
  ·exact ⟨by omega,by omega,by simp;omega,by rw [hsp,split_stepO ha (by omega) hno (u8_eqO (d:=46) h26)];simp,by rw [List.drop_eq_nil_of_le (by simp only [List.length_take];omega)];exact List.not_mem_nil⟩
  ·show s.length-(i+1)<s.length-i;omega
  ·exact .cons (cI (by omega)) (.cons (cI (by omega)) (.cons cZ .nil))
  ·exact .same .nil
set_option maxHeartbeats 1000000 in
theorem rparse_ac {gs:List Nat} (s:List UInt8) (hs:s.length≤1000000000):ACp gs Tryz.prog 212 [strC s] (.tup 2 (fl [isC (parseM s).1,.c (.int .i64 ((parseM s).2:Nat))])):=by
 have hpl:=split_len 46 s
 refine ac_of 38 Tryz.func212 rfl rfl rfl (fun al w0 F0 St0=>?_)
 refine jU 65116 ?_
 refine jqe (jebl 0 1 zr3 fun p1=>?_)
 refine jU 16751 ?_
 refine jqe (jecP (rsplit_ac s hs) ?_)
 refine jU 20513 ?_;refine l_loop (α:=Nat×List Int×Option Nat) [2,3,4,6,7,8,13,14,15,16,17,18,19,20,21,22,23,24,25,26,27,28,29,30,31,32,33] (fun (k,X,g)=>[(13,.c (.int .i64 (k:Nat))),(4,.os 0 g 0 X.length 1)]) (fun (k,X,g)=>[(g,.blk X.length (inF X))]) (fun (k,X,g)=>k≤(splitC 46 s).length∧X=((splitC 46 s).take k).map valP∧((splitC 46 s).take k).all okP=true) (fun (k,X,g)=>(splitC 46 s).length-k) ((0,[],p1)) ?_ (fun _=>rfl) ?_ ?_ ?_
 ·exact ⟨Nat.zero_le _,rfl,rfl⟩
 ·exact .cons cZ (.cons cZ .nil)
 ·exact .blk rfl (fun j hj=>absurd hj (Nat.not_lt_zero j)) .nil
 ·rintro ⟨k,X,g⟩ ⟨(hk:k≤_),hX,hall⟩
  have hXl:X.length≤k:=by rw [hX,List.length_map,List.length_take];omega
  refine jU 7526 ?_;refine jcc (fun h37=>?_) fun h37=>?_
  rotate_left
  ·refine jU 784000200020006000 ?_
   have hk2:k=(splitC 46 s).length:=by omega
   rw [hk2,List.take_length] at hX hall
   refine jE (freeze 0 rfl) ?_;refine jE (thawIL 4 X rfl rfl rfl (Nat.ble_eq_true_of_le (Nat.le_refl _)) (fun j hj=>cZ)) ?_;refine jU 16 ?_
   refine jqe (jecP (rright5_ac X) ?_)
   refine jU 530 ?_;refine jcc (fun h44=>?_) fun h44=>?_
   ·refine jU 5116 ?_
    refine jR (jtr (jrt (hv:=?_)))
    have hb:=parse_wrong hall (by rw [← hX];simpa using h44)
    exact cT (CEnt.nilS' (by rw [hb.1];rfl)) (cI (by rw [hb.2];rfl))
   refine jU 51116810 ?_
   refine jR (jrt (hv:=?_))
   have hb:=parse_good hall (by rw [← hX];simpa using h44)
   exact cT (show CEnt (isC X) _ from CEnt.of_eq (by rw [hb.1,hX])) (cI (by rw [hb.2];rfl))
  refine jU 1651607006207810 ?_
  refine jqe (jecP (rfig_ac ((splitC 46 s).getD k [])) ?_)
  refine jU 1301675119009001 ?_;refine jqsp 24 (fun g39=>?_) fun g39=>?_
  ·refine jU 5116900058000444 ?_
   refine jR (jtr (jbr (jtr (jtr (jbr (jtr (jrt (hv:=?_))))))))
   have hb:=parse_bad (s:=s) (all_false (k:=k) [] (by omega) (by exact okP_bad (.inl (by simpa using g39))))
   exact cT (CEnt.nilS' (by rw [hb.1];rfl)) (cI (by rw [hb.2];rfl))
  refine jU 55002400001 ?_;refine jcc (fun h39=>?_) fun h39=>?_
  ·refine jU 5116 ?_
   refine jR (jtr (jbr (jtr (jtr (jbr (jtr (jrt (hv:=?_))))))))
   have hb:=parse_bad (s:=s) (all_false (k:=k) [] (by omega) (by exact okP_bad (.inr (by omega))))
   exact cT (CEnt.nilS' (by rw [hb.1];rfl)) (cI (by rw [hb.2];rfl))
  refine jU 11200810 ?_
  refine jqe (jebl 1 1 zr3 fun p2=>?_)
  refine jqm (m_appendC rowC_in (l2:=[valP ((splitC 46 s).getD k [])]) rfl rfl rfl rfl (by exact Nat.le_of_eq (Nat.mul_one _)) (fun _ _=>cZ) (src_os rfl (.inl rfl) (by decide)) rfl (hh_ints (.cons (cI ((okP_good (by simpa using g39) h39).2)) .nil)) Tryz.underlying137 nu137 sz3 zr3 by3 rfl (by (simp;omega)) (by (simp;omega)) (leaf_flk rfl rfl) rfl rfl (Nat.mul_one _) (fun p3=>?_))
  refine jU 8519200840051 ?_
  refine jlend ((k+1,X++[valP ((splitC 46 s).getD k [])],p3)) ?_ ?_ (h5:=?_) (h7:=?_)
  ·exact ⟨by omega,by rw [hX,take_get [] (by omega),List.map_append];rfl,take_allO [] (by omega) hall (okP_good (by simpa using g39) h39).1⟩
  ·show (splitC 46 s).length-(k+1)<(splitC 46 s).length-k;omega
  ·exact .cons (cI (by omega)) (.cons cZ .nil)
  ·exact .same .nil
end
section
variable {gs:List Nat} [Ok9 gs]

theorem u8idx_ac {gs:List Nat} {g:FuncId} {n:Nat} {fv:Nat→CV} (hc:calleeB Tryz.prog g=true) (l:List (UInt8)) (p:(UInt8)→Bool) (hp:∀ r,ACp gs Tryz.prog g ((fun z:UInt8=>.c (.int .u8 (z.toNat:Nat))) r::(List.range n).map fv) (.c (.bool (p r)))) :
  ACp gs Tryz.prog 290 [bsC l,.fn g n fv] (.c (.int .i64 (firstI p l))):=by
 refine ac_len 0 rfl fun hlen=>?_
 refine ac_of 19 Tryz.func290 rfl rfl rfl (fun al w0 F0 St0=>?_)
 refine jU 20513167516 ?_;refine l_loop (α:=Nat) [4,5,8,9,10,11,12,13,14,15,16,17,18] (fun i=>[(8,.c (.int .i64 (i:Nat)))]) (fun _=>[]) (fun i=>i≤l.length∧∀ j (hj:j<l.length),j<i→p l[j]=false) (fun i=>l.length-i) (0) ?_ (fun _=>rfl) ?_ ?_ ?_
 ·exact ⟨by omega,fun j _ hj=>absurd hj (Nat.not_lt_zero j)⟩
 ·(repeat (first|exact EntE.nil|refine EntE.cons cZ ?_))
 ·(repeat (exact HEnt.nil))
 ·rintro i ⟨hi,he⟩
  refine jU 7526 ?_;refine jcc (fun h108=>?_) fun h108=>?_
  rotate_left
  ·refine jU 51684000200020006000 ?_
   refine jR (jrt (hv:=?_))
   refine cI ?_
   exact (firstI_none fun j hj=>he j hj (by omega)).symm
  refine jU 6070011165116207810 ?_
  refine jqe (e_callV rfl rfl (by assumption) (hp (l.getD i 0)) (entL_fn cZ _) rfl rfl ?_)
  rintro _ _ ⟨rfl,rfl⟩
  refine jU 5 ?_;refine jcc (fun h109=>?_) fun h109=>?_
  ·refine jU 5116 ?_
   refine jR (jbr (jtr (jtr (jbr (jtr (jrt (hv:=?_)))))))
   refine cI ?_
   have hlt:i<l.length:=by omega
   exact (firstI_at i hlt (by simpa [List.getD,hlt] using h109) (fun j hj=>he j (by omega) hj)).symm
  refine jU 8519200840010 ?_;refine jlend (i+1) ?_ ?_
  ·exact ⟨by omega,fun j hj hj1=>by
    by_cases e:j=i
    ·subst e
     simpa [List.getD,hj] using h109
    ·exact he j hj (by omega)⟩
  ·omega
theorem low_ac {gs:List Nat} (c:UInt8):ACp gs Tryz.prog 291 (.c (.int .u8 (c.toNat:Nat))::(List.range 0).map fun _=>.top) (.c (.bool (decide (c.toNat<128)))):=by
 refine ac_of 5 Tryz.func291 rfl rfl rfl (fun al w0 F0 St0=>?_)
 refine jU 51216516 ?_
 refine jR (jrt (hv:=?_))
 refine cB ?_
 (simp_all;omega)
def runsF (f:FuncId) (g:Option Nat):CV:=.fn f 1 (fl [.op 0 g 0])
theorem runs_ac {gs:List Nat} (b:List UInt8):AC gs Tryz.prog 271 [] [bsC b] (fun r H'=>∃ g,r=runsF 289 g∧H'=[(g,.blk 1 (fun _=>bsC b))]):=by
 refine ac_of 4 Tryz.func271 rfl rfl rfl (fun al w0 F0 St0=>?_)
 refine jcr ?_
 refine jqe (jebx 1 fun p1=>?_)
 refine jU 51 ?_;refine jE (blk_ent 0 (m:=1) (F:=fun _=>bsC b) rfl (Nat.le_refl _) (fun _=>rfl) (fun j hj=>by obtain rfl:j=0:=(by omega);exact cZ)) ?_;refine jcr ?_;refine jq jrmf ?_;refine jU 700051 ?_
 exact end_own (.inl rfl) (runsF 289 p1) _ [0] (by decide) rfl ((res_1 rfl (arv_tmp rfl)).ent (by refine CEnt.fn1 ?_;exact cP)) ⟨_,rfl,rfl⟩
theorem runs_drop {b rest:List UInt8} {k:Nat} (h:(runsL b).drop k=runsL rest) (hr:rest≠[]):k<(runsL b).length∧(runsL b).getD k []=rest.take (runLen rest)∧(runsL b).drop (k+1)=runsL (rest.drop (runLen rest)):=by
 rw [runsL_cons hr] at h
 have h2:=drop_getD (d:=[]) h
 refine ⟨?_,h2.1,h2.2⟩
 apply Classical.byContradiction
 intro hn
 rw [List.drop_eq_nil_of_le (by omega)] at h
 cases h
theorem runs_all {b rest:List UInt8} {k:Nat} (h:(runsL b).drop k=runsL rest) (hr:rest=[]) (hk:k≤(runsL b).length):k=(runsL b).length:=by
 subst hr
 rw [runsL_nil] at h
 have:=List.drop_eq_nil_iff.1 h
 omega
theorem runs_iter {gs:List Nat} (b:List UInt8) (g:Option Nat) (hb:b.length≤100000000000):IterC gs Tryz.prog 289 [(g,.blk 1 (fun _=>bsC b))] ((List.range 1).map (fl [.op 0 g 0])) (runsL b).length (fun k=>[bsC ((runsL b).getD k [])]):=fun l J Jx hY=>by
 refine ac_ofY true 23 Tryz.func289 rfl rfl rfl (fun al w0 F0 St0=>?_)
 refine jU 20 ?_;refine l_loop (α:=Nat×List UInt8) [3,4,5,6,7,8,9,10,11,12,13,14,15,16,17,18,19,20,21,22] (fun _=>[]) (fun (k,rest)=>[(g,.blk 1 (fun _=>bsC rest)),(some l,.obj (J k))]) (fun (k,rest)=>(runsL b).drop k=runsL rest∧rest.length≤b.length∧k≤(runsL b).length) (fun (k,rest)=>rest.length) ((0,b)) ?_ (fun _=>rfl) ?_ ?_ ?_
 ·exact ⟨rfl,Nat.le_refl _,Nat.zero_le _⟩
 ·exact .nil
 ·exact .same (.same .nil)
 ·rintro ⟨k,rest⟩ ⟨hk,hlen,hkn⟩
  refine jU 5235067 ?_;refine jcc (fun h83=>?_) fun h83=>?_
  rotate_left
  ·refine jU 4000200020006000 ?_
   exact end_own (.inr rfl) _ _ [1] (by decide) rfl (res_0 rfl) (.inl (by rw [← runs_all hk (List.length_eq_zero_iff.1 (by omega)) hkn];rfl))
  refine jU 20810 ?_
  have hne:rest≠[]:=List.length_pos_iff.1 (by omega)
  have hk2:=runs_drop hk hne
  have hrl:=low_run rest (fun c=>decide (c.toNat<128)) (fun _=>rfl)
  have hrp:=runLen_pos hne
  have hrn:=runLen_le rest
  have hfb:=firstI_bd (fun c:UInt8=>decide (c.toNat<128)) rest
  refine jU 506 ?_
  refine jqe (jecP (u8idx_ac (n:=0) (fv:=fun _=>.top) (by kernel_rfl) rest (fun c=>decide (c.toNat<128)) low_ac) ?_ (ho:=rfl) (he:=(.cons (se rfl cZ) (.cons (se rfl CEnt.fn0) .nil))))
  refine jU 519 ?_;refine code_join (α:=Unit) [3,10,11,12,13] (fun _=>[(3,.c (.int .i64 (runLen rest:Nat)))]) (fun _=>[(g,.blk 1 (fun _=>bsC rest)),(some l,.obj (J k))]) (fun _=>True) (fun _=>rfl) ?_ ?_
  ·refine jU 5216 ?_;refine jcc (fun h85=>?_) fun h85=>?_
   rotate_left
   ·refine jU 810 ?_
    refine jjend (()) ?_ (h5:=?_) (h7:=?_)
    ·trivial
    ·exact .cons (cI (by omega)) .nil
    ·exact .same (.same .nil)
   refine jU 851350200 ?_
   refine jjend (()) ?_ (h5:=?_) (h7:=?_)
   ·trivial
   ·exact .cons (cI (by omega)) .nil
   ·exact .same (.same .nil)
  ·rintro u _
   refine jU 150167 ?_;refine jq (jrst (hz2:=(show _=(((runLen rest):Nat):Int) by omega))) ?_
   refine seq_mdI (wanted_none rfl) rfl (m_callY (i:=1) rfl rfl rfl (hY k hk2.1) (.cons (se rfl (CEnt.bs hk2.2.1.symm)) .nil) rfl rfl ?_)
   rintro _ _ (⟨rfl,rfl⟩|⟨rfl,rfl⟩)
   ·refine ⟨_,_,rfl,cZ,?_⟩
    refine jU 150200810300530 ?_;refine jq (jrsf (hz1:=(show _=(((runLen rest):Nat):Int) by omega))) ?_
    refine jqm (jmst 1 ?_)
    refine jU 84005 ?_
    refine jlend ((k+1,rest.drop (runLen rest))) ?_ ?_ (h5:=?_) (h7:=?_)
    ·exact ⟨hk2.2.2,by rw [List.length_drop];omega,by omega⟩
    ·show (rest.drop (runLen rest)).length<rest.length;rw [List.length_drop];omega
    ·exact .nil
    ·exact .blk rfl (fun j hj=>by obtain rfl:j=0:=(by omega);exact cZ) (.same .nil)
   ·refine ⟨_,_,rfl,cZ,?_⟩
    refine jU 500030005000300070009000530 ?_
    exact end_own (.inl rfl) _ _ [1] (by decide) rfl (res_0 rfl) (.inr rfl)

theorem ser_take {l:List Int} {i:Nat} (h:i<l.length):((l.take (i+1)).map fun n=>dec n.toNat)=((l.take i).map fun n=>dec n.toNat)++[dec (l.getD i 0).toNat]:=by
 rw [take_get 0 h,List.map_append];rfl
theorem otext_ac (l:List Int):ACp gs Tryz.prog 273 [isC l] (.tup 2 (fl [strC (textM l).1,.err (textM l).2])):=by
 refine ac_len 0 rfl fun hlen=>?_
 refine ac_of 25 Tryz.func273 rfl rfl rfl (fun al w0 F0 St0=>?_)
 refine jU 1675116 ?_
 refine jqe (jecP (oright_ac l) ?_)
 refine jU 530 ?_;refine jcc (fun h47=>?_) fun h47=>?_
 ·refine jcs ?_;refine jcd (.rd 0 (.rd 1 (.rd 2 .done))) ?_;refine jyq (jrde 0) ?_;refine jU 8807070 ?_
  refine jR (jtr (jrt (hv:=?_)))
  have hb:textM l=([],1):=by unfold textM;rw [if_neg (by simp_all)]
  exact cT (CEnt.strL (by rw [hb])) (CEnt.errN (by rw [hb]))
 refine jU 7516810 ?_;refine jE (ent_none (ssF [])) ?_;refine jU 2051316 ?_;refine l_loop (α:=Nat×List (List UInt8)×Option Nat) [4,6,13,14,15,16,17,18,19,20,21,22] (fun (i,X,g)=>[(13,.c (.int .i64 (i:Nat))),(4,.os 0 g 0 X.length 1)]) (fun (i,X,g)=>[(g,.blk (X.length * 1) (ssF X))]) (fun (i,X,g)=>i≤l.length∧X=(l.take i).map fun n=>dec n.toNat) (fun (i,X,g)=>l.length-i) ((0,[],none)) ?_ (fun _=>rfl) ?_ ?_ ?_
 ·exact ⟨Nat.zero_le _,rfl⟩
 ·exact .cons cZ (.cons CEnt.nilO .nil)
 ·exact .blk rfl (fun j hj=>absurd hj (Nat.not_lt_zero j)) .nil
 ·rintro ⟨i,X,g⟩ ⟨(hi:i≤l.length),hX⟩
  have hXl:X.length=i:=by rw [hX,List.length_map,List.length_take];omega
  obtain ⟨r1,r2,r3,_,_⟩:=right_at (l:=l) (by simp_all)
  refine jE (ent_none (ssF [])) ?_;refine jU 7526 ?_;refine jcc (fun h51=>?_) fun h51=>?_
  rotate_left
  ·refine jU 84000200020006000 ?_
   have hi2:i=l.length:=by omega
   rw [hi2,List.take_length] at hX
   have hb:textM l=(textL l,0):=by unfold textM;rw [if_pos (by simp_all)]
   obtain ⟨q1,q2,q3,_,_⟩:=right_at (l:=l) (by simp_all)
   have hjl:=join_len (c:=46) (m:=10) (ls:=X) (fun p hp=>by
    rw [hX] at hp
    obtain ⟨n,hn,rfl⟩:=List.mem_map.1 hp
    exact dec_len 9 n.toNat (by have:=q3 n hn;omega))
   have hjo:=join_lib 46 X
   refine jE (freeze 0 rfl) ?_;refine jE (thaw 4 (fun b _=>strC (X.getD b [])) rfl rfl (by omega) ss_thaw) ?_;refine jU 16 ?_
   refine jqe (jecP (join_ac X [46] (by omega) (by rw [hjo];omega)) ?_)
   refine jU 511 ?_
   refine jR (jrt (hv:=cT (CEnt.strL (by rw [hb,hjo,hX];rfl)) (CEnt.nilE (by rw [hb]))))
  refine jU 207810 ?_;refine jE (ent_none (ssF [])) ?_;refine jU 51607006 ?_
  have hn:=r3 _ (getD_mem' (l:=l) (k:=i) 0 (by omega))
  refine jU 11200 ?_
  refine jqe (jecP (wser_ac (l.getD i 0).toNat (by omega)) ?_ (ho:=rfl) (he:=(.cons (se rfl (cI (by omega))) .nil)))
  refine jqe (jebl 1 1 zr9 fun p1=>?_)
  refine jqm (m_appendC (rowC_ss) (l2:=[dec (l.getD i 0).toNat]) rfl rfl rfl rfl (by exact Nat.le_refl _) (fun _ _=>cZ) (src_os rfl (.inl rfl) (by decide)) rfl (fun j hj=>by rcases j with _|j <;> first|exact cZ|(exfalso;simp at hj <;> omega)) Tryz.underlying82 nu82 sz9 zr9 by9 rfl (by (simp;omega)) (by (simp;omega)) (leaf_flk rfl rfl) rfl rfl rfl (fun p2=>?_))
  refine jU 840051 ?_;refine jE (ent_none (ssF [])) ?_;refine jU 8519200 ?_
  refine jlend ((i+1,X++[dec (l.getD i 0).toNat],p2)) ?_ ?_ (h5:=?_) (h7:=?_)
  ·exact ⟨by omega,by rw [hX,ser_take (by omega)]⟩
  ·show l.length-(i+1)<l.length-i;omega
  ·exact .cons (cI (by omega)) (.cons cZ .nil)
  ·exact .same .nil
end
end Am
end Go.Proofs.YthlpfjnkieaeeaaGreatDoor
