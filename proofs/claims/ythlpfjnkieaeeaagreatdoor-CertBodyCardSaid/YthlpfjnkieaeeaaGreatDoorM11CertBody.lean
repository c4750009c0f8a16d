/- What the law leans on, part 11: W09o, W09p, W09q, W09r, P09s, ErrN, W08y, AmN, W09s, W09t, P19, Hx, P11, P11b, W02b, AmO -/
import Derived.Test.YthlpfjnkieaeeaaGreatDoorM10CertBody

set_option maxRecDepth 100000
namespace Go.Proofs.YthlpfjnkieaeeaaGreatDoor
set_option linter.unusedVariables false
namespace Am
open Go.RowKit
section
variable {gs:List Nat} [OkG gs]

theorem lab_len {l:List UInt8} (h:labM l=true):l.length≤24:=(labM_iff.1 h).2.1
theorem word_len (k:Int):(wordM k).length≤8:=by
 by_cases h:1≤k∧k≤5
 ·rcases kinds h.1 h.2 with rfl|rfl|rfl|rfl|rfl <;> decide
 ·rw [(wordM_nil k).2 h];simp
theorem word_get {k:Int} (h1:1≤k) (h5:k≤5):wordL.getD (k-1).toNat []=wordM k:=by unfold wordM;rw [if_neg (by omega)]
theorem right_k {s:S3} (h:rightS s=true):1≤s.1∧s.1≤5∧s.2.2.length≤24∧s.2.1.length≤24:=by
 obtain ⟨h1,h5,hn,h2,hs⟩:=(right_iff s).1 h
 refine ⟨h1,h5,lab_len hn,?_⟩
 by_cases hk:s.1=2
 ·exact lab_len (h2 hk)
 ·rw [hs hk];simp
theorem CEnt.rsL {k n m:Nat} {f g:Nat→Nat→CV} (h:n=m) (hf:f=g):CEnt (.rs k n f) (.rs k m g):=by subst h hf;exact cZ
def partE (p:P2) (j:Nat):CV:=if j=0 then strC p.1 else strC p.2
def partF:List P2→Nat→CV:=rowF 2 partE ([],[])
def partsC (l:List P2):CV:=.rs 2 l.length fun i j=>partE (l.getD i ([],[])) j
theorem partF_one (p:P2) (j:Nat) (hj:j<2):CEnt (fl [strC p.1,strC p.2] j) (partF [p] j):=by
 rcases j with _|_|j <;> first|exact cZ|omega
theorem nparts_ac (s:S3):ACp gs Tryz.prog 170 [subjC s] (.tup 2 (fl [partsC (if rightS s=true then partsS s else []),.err (if rightS s=true then 0 else 9)])):=by
 have hwl:=word_len s.1
 refine ac_of 32 Tryz.func170 rfl rfl rfl (fun al w0 F0 St0=>?_)
 refine jcr ?_
 refine jqe (jebx 3 fun p1=>?_)
 refine jU 67511 ?_;refine jqo (jrdoA 3) ?_
 refine jqe (jecP (nright_ac s) ?_)
 refine jU 530 ?_;refine jcc (fun h38=>?_) fun h38=>?_
 ·refine jcs ?_;refine jcd (.rd 0 (.rd 1 (.rd 2 .done))) ?_;refine jyq (jrde 8) ?_;refine jU 8807070 ?_
  refine jR (jtr (jrt (hv:=?_)))
  have hr:rightS s=false:=by simpa using h38
  exact cT (CEnt.nilS' (by rw [if_neg (by simp [hr])];rfl)) (CEnt.errN (by rw [if_neg (by simp [hr])]))
 refine jU 7810 ?_
 have hr:rightS s=true:=by simpa using h38
 obtain ⟨k1,k5,n1,n2⟩:=right_k hr
 have hg:=word_get k1 k5
 refine jcd (.rd 1 (.rd 2 (.rd 3 (.one 0 (.rd 4 (.rd 5 (.rd 6 (.one 7 (.rd 8 .done))))))))) ?_;refine jU 900000 ?_;refine jyo (jrdo (hn:=by omega)) ?_;refine jyq (jra (hS:=by show _∧_;omega)) ?_
 refine jye (jecP words_ac ?_)
 refine jyq (jri (i:=(s.1-1).toNat) (hz:=by omega) (hS:=by (show _<(5:Nat);omega))) ?_;refine jyq (jrdr (hn:=by omega)) ?_;refine jyq (rd_build (n:=2) rfl zr212 pl212 rfl rfl) ?_
 refine jye (jebl 2 2 zr212 fun p2=>?_)
 refine jU 788070 ?_;refine jE (blk_ent 1 (m:=2) (F:=partF [(oidK,wordM s.1)]) rfl (by decide) (fun _=>rfl) (fun j hj=>by rw [← hg];exact partF_one (oidK,_) j hj)) ?_;refine jU 560000501006 ?_;refine jcc (fun h42=>?_) fun h42=>?_
 rotate_left
 ·refine jU 50100016810 ?_;refine jq (rd_build (n:=2) rfl zr212 pl212 rfl rfl) ?_
  refine jqe (jebl 2 2 zr212 fun p3=>?_)
  refine jqm (m_appendC (rowC_row 2 partE ([],[])) (l2:=[(oidN,s.2.2)]) rfl rfl rfl rfl (by exact Nat.le_refl _) (fun _ _=>cZ) (src_os rfl (.inl rfl) (by decide)) rfl (fun j hj=>by rcases j with _|_|j <;> first|exact cZ|(exfalso;simp at hj <;> omega)) Tryz.underlying210 nu210 sz212 zr212 by212 rfl (by (simp;done)) (by (simp;done)) (leaf_flk rfl rfl) rfl rfl rfl (fun p4=>?_))
  refine jU 511 ?_;refine jE (freeze 1 rfl) ?_;refine jE (thaw 2 (fun i j=>partE ((partsS s).getD i ([],[])) j) rfl rfl (by exact Nat.le_refl _) (fun a b ha hb=>CEnt.of_eq (by rw [Nat.zero_add];refine (rowF_at (k:=2) hb).trans ?_;unfold partsS;(rw [if_pos (by simpa using h42)];rfl)))) ?_
  refine jR (jrt (hv:=?_))
  refine cT (CEnt.rsL ?_ ?_) (CEnt.nilE (by rw [if_pos hr]))
  ·rw [if_pos hr];unfold partsS;(rw [if_pos (by simpa using h42)];rfl)
  ·rw [if_pos hr]
 refine jU 501001200 ?_;refine jq (rd_build (n:=2) rfl zr212 pl212 rfl rfl) ?_
 refine jqe (jebl 2 2 zr212 fun p3=>?_)
 refine jqm (m_appendC (rowC_row 2 partE ([],[])) (l2:=[(oidS,s.2.1)]) rfl rfl rfl rfl (by exact Nat.le_refl _) (fun _ _=>cZ) (src_os rfl (.inl rfl) (by decide)) rfl (fun j hj=>by rcases j with _|_|j <;> first|exact cZ|(exfalso;simp at hj <;> omega)) Tryz.underlying210 nu210 sz212 zr212 by212 rfl (by (simp;done)) (by (simp;done)) (leaf_flk rfl rfl) rfl rfl rfl (fun p4=>?_))
 refine jU 50100016851 ?_;refine jq (rd_build (n:=2) rfl zr212 pl212 rfl rfl) ?_
 refine jqe (jebl 2 2 zr212 fun p5=>?_)
 refine jqm (m_appendC (rowC_row 2 partE ([],[])) (l2:=[(oidN,s.2.2)]) rfl rfl rfl rfl (by exact Nat.le_refl _) (fun _ _=>cZ) (src_os rfl (.inl rfl) (by decide)) rfl (fun j hj=>by rcases j with _|_|j <;> first|exact cZ|(exfalso;simp at hj <;> omega)) Tryz.underlying210 nu210 sz212 zr212 by212 rfl (by (simp;done)) (by (simp;done)) (leaf_flk rfl rfl) rfl rfl rfl (fun p6=>?_))
 refine jU 511 ?_;refine jE (freeze 1 rfl) ?_;refine jE (thaw 2 (fun i j=>partE ((partsS s).getD i ([],[])) j) rfl rfl (by exact Nat.le_refl _) (fun a b ha hb=>CEnt.of_eq (by rw [Nat.zero_add];refine (rowF_at (k:=2) hb).trans ?_;unfold partsS;(rw [if_neg h42];rfl)))) ?_
 refine jR (jrt (hv:=?_))
 refine cT (CEnt.rsL ?_ ?_) (CEnt.nilE (by rw [if_pos hr]))
 ·rw [if_pos hr];unfold partsS;(rw [if_neg h42];rfl)
 ·rw [if_pos hr]
theorem rparts_ac {gs:List Nat} (s:S3) (hr:rightS s=true):ACp gs Tryz.prog 158 [subjC s] (partsC (partsS s)):=by
 have hp:=parts_ref hr
 refine ac_of 24 Tryz.func158 rfl rfl rfl (fun al w0 F0 St0=>?_)
 refine jcr ?_
 refine jqe (jebx 3 fun p1=>?_)
 refine jU 5090651 ?_
 refine jqe (jecP (word_ac s.1) ?_)
 refine jq (rd_build (n:=2) rfl zr212 pl212 rfl rfl) ?_
 refine jqe (jebl 2 2 zr212 fun p2=>?_)
 refine jU 751 ?_;refine jE (blk_ent 1 (m:=2) (F:=partF [(oidK,wordM s.1)]) rfl (by decide) (fun _=>rfl) (fun j hj=>partF_one (oidK,_) j hj)) ?_;refine jU 5250906 ?_;refine jcc (fun h33=>?_) fun h33=>?_
 rotate_left
 ·refine jU 50100016810 ?_;refine jq (rd_build (n:=2) rfl zr212 pl212 rfl rfl) ?_
  refine jqe (jebl 2 2 zr212 fun p3=>?_)
  refine jqm (m_appendC (rowC_row 2 partE ([],[])) (l2:=[(oidN,s.2.2)]) rfl rfl rfl rfl (by exact Nat.le_refl _) (fun _ _=>cZ) (src_os rfl (.inl rfl) (by decide)) rfl (fun j hj=>by rcases j with _|_|j <;> first|exact cZ|(exfalso;simp at hj <;> omega)) Tryz.underlying210 nu210 sz212 zr212 by212 rfl (by (simp;done)) (by (simp;done)) (leaf_flk rfl rfl) rfl rfl rfl (fun p4=>?_))
  refine jU 51 ?_;refine jE (freeze 1 rfl) ?_;refine jE (thaw 2 (fun i j=>partE ((partsS s).getD i ([],[])) j) rfl rfl (by exact Nat.le_refl _) (fun a b ha hb=>CEnt.of_eq (by rw [Nat.zero_add];refine (rowF_at (k:=2) hb).trans ?_;rw [hp];(rw [if_neg h33];rfl)))) ?_
  refine jR (jrt (hv:=?_))
  refine CEnt.rsL ?_ rfl
  rw [hp];(rw [if_neg h33];rfl)
 refine jU 501001200 ?_;refine jq (rd_build (n:=2) rfl zr212 pl212 rfl rfl) ?_
 refine jqe (jebl 2 2 zr212 fun p3=>?_)
 refine jqm (m_appendC (rowC_row 2 partE ([],[])) (l2:=[(oidS,s.2.1)]) rfl rfl rfl rfl (by exact Nat.le_refl _) (fun _ _=>cZ) (src_os rfl (.inl rfl) (by decide)) rfl (fun j hj=>by rcases j with _|_|j <;> first|exact cZ|(exfalso;simp at hj <;> omega)) Tryz.underlying210 nu210 sz212 zr212 by212 rfl (by (simp;done)) (by (simp;done)) (leaf_flk rfl rfl) rfl rfl rfl (fun p4=>?_))
 refine jU 50100016851 ?_;refine jq (rd_build (n:=2) rfl zr212 pl212 rfl rfl) ?_
 refine jqe (jebl 2 2 zr212 fun p5=>?_)
 refine jqm (m_appendC (rowC_row 2 partE ([],[])) (l2:=[(oidN,s.2.2)]) rfl rfl rfl rfl (by exact Nat.le_refl _) (fun _ _=>cZ) (src_os rfl (.inl rfl) (by decide)) rfl (fun j hj=>by rcases j with _|_|j <;> first|exact cZ|(exfalso;simp at hj <;> omega)) Tryz.underlying210 nu210 sz212 zr212 by212 rfl (by (simp;done)) (by (simp;done)) (leaf_flk rfl rfl) rfl rfl rfl (fun p6=>?_))
 refine jU 51 ?_;refine jE (freeze 1 rfl) ?_;refine jE (thaw 2 (fun i j=>partE ((partsS s).getD i ([],[])) j) rfl rfl (by exact Nat.le_refl _) (fun a b ha hb=>CEnt.of_eq (by rw [Nat.zero_add];refine (rowF_at (k:=2) hb).trans ?_;rw [hp];(rw [if_pos h33];rfl)))) ?_
 refine jR (jrt (hv:=?_))
 refine CEnt.rsL ?_ rfl
 rw [hp];(rw [if_pos h33];rfl)
theorem p2_getD {l:List P2} {i:Nat} (h:i<l.length):l.getD i ([],[])=l[i]:=by simp [List.getD,h]
theorem equalP_ac {gs:List Nat} (l r:List P2):ACp gs Tryz.prog 233 [partsC l,partsC r] (.c (.bool (decide (l=r)))):=by
 refine ac_len 0 rfl fun hlen=>?_
 refine ac_of 26 Tryz.func233 rfl rfl rfl (fun al w0 F0 St0=>?_)
 refine jU 52313167516 ?_;refine jcc (fun h21=>?_) fun h21=>?_
 ·refine jU 516 ?_
  refine jR (jtr (jrt (hv:=?_)))
  refine cB ?_
  refine (decide_eq_false fun h=>?_).symm
  rw [h] at h21;omega
 refine jU 20513167810 ?_;refine l_loop (α:=Nat) [4,5,13,14,15,16,17,18,19,20,21,22,23,24,25] (fun i=>[(13,.c (.int .i64 (i:Nat)))]) (fun _=>[]) (fun i=>i≤l.length∧l.take i=r.take i) (fun i=>l.length-i) (0) ?_ (fun _=>rfl) ?_ ?_ ?_
 ·exact ⟨by omega,by simp⟩
 ·(repeat (first|exact EntE.nil|refine EntE.cons cZ ?_))
 ·(repeat (exact HEnt.nil))
 ·rintro i ⟨hi,he⟩
  refine jU 7526 ?_;refine jcc (fun h24=>?_) fun h24=>?_
  rotate_left
  ·refine jU 51684000200020006000 ?_
   refine jR (jrt (hv:=?_))
   refine cB ?_
   refine (decide_eq_true ?_).symm
   have e1:l.take i=l:=List.take_of_length_le (by omega)
   have e2:r.take i=r:=List.take_of_length_le (by omega)
   rw [← e1,he,e2]
  refine jU 75116207810 ?_;refine jcd (.rd 0 (.rd 1 (.rd 2 (.rd 3 (.rd 4 (.rd 5 (.rd 6 (.rd 7 (.rd 8 .done))))))))) ?_;refine jU 900007070 ?_;refine jyq (jrdrA 2) ?_;refine jU 900007070 ?_;refine jyq (jrdrA 2) ?_;refine jyq (rd_neAgg rfl rfl rfl Tryz.underlying212 (by kernel_rfl) (by kernel_rfl) (.str Tryz.underlying9 (by decide) rfl rfl (.str Tryz.underlying9 (by decide) rfl rfl .nil)) rfl) ?_;refine jU 880 ?_;refine jcc (fun h25=>?_) fun h25=>?_
  ·refine jU 516 ?_
   refine jR (jbr (jtr (jtr (jbr (jtr (jrt (hv:=?_)))))))
   refine cB ?_
   refine (decide_eq_false fun h=>h25 ?_).symm
   rw [h];simp
  refine jU 8519200840010 ?_;refine jlend (i+1) ?_ ?_
  ·refine ⟨by omega,?_⟩
   rw [List.take_succ_eq_append_getElem (show i<l.length by omega),List.take_succ_eq_append_getElem (show i<r.length by omega),he,← p2_getD,← p2_getD]
   have h25':(l.getD i ([],[]))=(r.getD i ([],[])):=by
    have:=Classical.byContradiction h25
    exact Prod.ext (ba_inj.1 this.1) (ba_inj.1 this.2.1)
   rw [h25']
  ·omega
end
section
variable {gs:List Nat} [OkG gs]

def sF (s:S3):Nat→CV:=fl [.c (.int .i64 s.1),strC s.2.1,strC s.2.2]
theorem sF_k (s:S3) (x:Int) (j:Nat) (hj:j<3):CEnt (updF (sF s) 0 [.c (.int .i64 x)] j) (sF (x,s.2.1,s.2.2) j):=by
 rcases j with _|_|_|j <;> exact cZ
theorem sF_s (s:S3) (x:List UInt8) (j:Nat) (hj:j<3):CEnt (updF (sF s) 1 [strC x] j) (sF (s.1,x,s.2.2) j):=by
 rcases j with _|_|_|j <;> exact cZ
theorem sF_n (s:S3) (x:List UInt8) (j:Nat) (hj:j<3):CEnt (updF (sF s) 2 [strC x] j) (sF (s.1,s.2.1,x) j):=by
 rcases j with _|_|_|j <;> exact cZ
theorem guess_take {l:List P2} {i:Nat} (h:i<l.length):guessP (l.take (i+1))=stepP (guessP (l.take i)) (l.getD i ([],[])):=by
 unfold guessP
 rw [List.take_succ_eq_append_getElem h,List.foldl_append,p2_getD h]
 rfl
theorem nof_ac (l:List P2) (hl:l.length≤1000000):ACp gs Tryz.prog 190 [partsC l] (.tup 2 (fl [subjC (ofP l).1,.err (ofP l).2])):=by
 refine ac_of 52 Tryz.func190 rfl rfl rfl (fun al w0 F0 St0=>?_)
 refine jcr ?_
 refine jqe (jeal (n:=3) zr36 rfl fun p1=>?_)
 refine jU 651 ?_
 refine jqe (jeal (n:=3) zr36 rfl fun p2=>?_)
 refine jU 205131675 ?_;refine l_loop (α:=Nat) [6,11,12,13,14,15,16,17,18,19,20,21,22,23,24,25,26,27,28,29,30,31,32,33,34,35] (fun i=>[(11,.c (.int .i64 (i:Nat)))]) (fun i=>[(p1,.blk 3 fun _=>.top),(p2,.blk 3 (sF (guessP (l.take i))))]) (fun i=>i≤l.length) (fun i=>l.length-i) (0) ?_ (fun _=>rfl) ?_ ?_ ?_
 ·exact Nat.zero_le _
 ·exact .cons cZ .nil
 ·exact .blk rfl (fun _ _=>CEnt.top _) (.blk rfl (fun j hj=>by rcases j with _|_|_|j <;> first|exact cZ|omega) .nil)
 ·rintro i (hi:i≤l.length)
  refine jU 7526 ?_;refine jcc (fun h51=>?_) fun h51=>?_
  rotate_left
  ·refine jU 84000200020006000 ?_
   have ei:l.take i=l:=List.take_of_length_le (by omega)
   rw [ei]
   refine jcr ?_;refine jqo (jrdoA 3) ?_
   refine jqe (jecP (nparts_ac (guessP l)) ?_)
   refine jU 15000001675119009001 ?_;refine jqsp 43 (fun g62=>?_) fun g62=>?_
   ·refine jU 79000580004444 ?_;refine jcdZ (.rd 0 (.rd 1 (.one 2 (.rd 3 .done)))) ?_;refine jzq (rd_build (n:=3) rfl zr36 pl36 rfl rfl) ?_;refine jzq (jrde 8) ?_
    refine jzm (jmst 3 ?_)
    refine jU 8700000400000 ?_
    refine jR (jtr (jrt (hres:=res_2 rfl (javA 3) javt) (hv:=?_)))
    have hp:ofP l=(zeroS,9):=by
     unfold ofP
     refine if_neg fun hh=>?_
     simp_all
    rw [hp];exact cT (CEnt.agg3 cZ cZ cZ) cZ
   refine jU 11 ?_
   refine jqe (jecP (equalP_ac (if rightS (guessP l)=true then partsS (guessP l) else []) l) ?_)
   refine jU 550030 ?_;refine jcc (fun h62=>?_) fun h62=>?_
   ·refine jcs ?_;refine jcdZ (.rd 0 (.rd 1 (.one 2 (.rd 3 .done)))) ?_;refine jzq (rd_build (n:=3) rfl zr36 pl36 rfl rfl) ?_;refine jzq (jrde 8) ?_
    refine jzm (jmst 3 ?_)
    refine jU 8700000400000 ?_
    refine jR (jtr (jrt (hres:=res_2 rfl (javA 3) javt) (hv:=?_)))
    have hp:ofP l=(zeroS,9):=by
     unfold ofP
     refine if_neg fun hh=>?_
     simp_all
    rw [hp];exact cT (CEnt.agg3 cZ cZ cZ) cZ
   refine jU 6810 ?_;refine jqo (jrdoA 3) ?_
   refine jqm (jmst 3 ?_)
   refine jU 51 ?_
   refine jR (jrt (hres:=res_2 rfl (javA 3) javt) (hv:=?_))
   have hr:rightS (guessP l)=true:=by
    cases hb:rightS (guessP l) with
    | true=>rfl
    | false=>simp_all
   have ht:partsS (guessP l)=l:=by simp_all
   have hp:ofP l=(guessP l,0):=by unfold ofP;rw [if_pos ⟨hr,ht⟩]
   rw [hp]
   exact cT (CEnt.agg3 cZ cZ cZ) CEnt.nil
  refine jU 7006207810 ?_;refine jq (jrdrA 2) ?_
  refine jqe (jeal (n:=2) zr212 rfl fun p3=>?_)
  refine jqm (jmst 2 ?_)
  refine jU 51600006205509065 ?_;refine jcc (fun h53=>?_) fun h53=>?_
  ·refine jcdB 6 (.rd 1 (.rd 2 (.one 0 (.one 3 (.rd 4 (.rd 5 .done)))))) ?_;refine jU 100008000000 ?_
   refine jye (jecP words_ac ?_)
   refine jye (jecP (indexS_ac wordL (l.getD i ([],[])).2) ?_)
   refine jyq (rd_addW rfl rfl rfl ((idxW (l.getD i ([],[])).2)) ((by rw [idx_wordL];exact wrap_id (k:=.i64) (by show _∧_;have:=idxW_bd (l.getD i ([],[])).2;omega)))) ?_;refine jU 80900000 ?_
   show ASeq _ _ _ _ _ _
   refine jqm (jmst 1 ?_)
   refine jU 851920084004005 ?_
   refine jlend (i+1) ?_ ?_ (h5:=?_) (h7:=?_)
   ·show i+1≤l.length;omega
   ·show l.length-(i+1)<l.length-i;omega
   ·exact .cons (cI (by omega)) .nil
   ·have ht:=guess_take (l:=l) (i:=i) (by omega)
    unfold stepP at ht
    rw [show oidK=[49,46,51,46,57,57,57,57,46,49,46,49] from rfl,show oidS=[49,46,51,46,57,57,57,57,46,49,46,50] from rfl,show oidN=[49,46,51,46,57,57,57,57,46,49,46,51] from rfl] at ht
    first
    |(rw [if_pos h53] at ht;rw [ht];refine .same (.blk rfl (fun j hj=>?_) .nil);have:=sF_k (guessP (l.take i)) (idxW (l.getD i ([],[])).2) j hj;exact this)
    |(rw [if_neg h53,if_pos h55] at ht;rw [ht];exact .same (.blk rfl (fun j hj=>sF_s _ _ j hj) .nil))
    |(rw [if_neg h53,if_neg h55,if_pos h57] at ht;rw [ht];exact .same (.blk rfl (fun j hj=>sF_n _ _ j hj) .nil))
    |(rw [if_neg h53,if_neg h55,if_neg h57] at ht;rw [ht];exact .same (.same .nil))
  refine jU 51600006 ?_;refine jcc (fun h55=>?_) fun h55=>?_
  ·refine jU 10050100200 ?_
   refine jqm (jmst 1 ?_)
   refine jU 851920084004005 ?_
   refine jlend (i+1) ?_ ?_ (h5:=?_) (h7:=?_)
   ·show i+1≤l.length;omega
   ·show l.length-(i+1)<l.length-i;omega
   ·exact .cons (cI (by omega)) .nil
   ·have ht:=guess_take (l:=l) (i:=i) (by omega)
    unfold stepP at ht
    rw [show oidK=[49,46,51,46,57,57,57,57,46,49,46,49] from rfl,show oidS=[49,46,51,46,57,57,57,57,46,49,46,50] from rfl,show oidN=[49,46,51,46,57,57,57,57,46,49,46,51] from rfl] at ht
    first
    |(rw [if_pos h53] at ht;rw [ht];refine .same (.blk rfl (fun j hj=>?_) .nil);have:=sF_k (guessP (l.take i)) (idxW (l.getD i ([],[])).2) j hj;exact this)
    |(rw [if_neg h53,if_pos h55] at ht;rw [ht];exact .same (.blk rfl (fun j hj=>sF_s _ _ j hj) .nil))
    |(rw [if_neg h53,if_neg h55,if_pos h57] at ht;rw [ht];exact .same (.blk rfl (fun j hj=>sF_n _ _ j hj) .nil))
    |(rw [if_neg h53,if_neg h55,if_neg h57] at ht;rw [ht];exact .same (.same .nil))
  refine jU 51600006 ?_;refine jcc (fun h57=>?_) fun h57=>?_
  rotate_left
  ·refine jU 8519200840040010 ?_
   refine jlend (i+1) ?_ ?_ (h5:=?_) (h7:=?_)
   ·show i+1≤l.length;omega
   ·show l.length-(i+1)<l.length-i;omega
   ·exact .cons (cI (by omega)) .nil
   ·have ht:=guess_take (l:=l) (i:=i) (by omega)
    unfold stepP at ht
    rw [show oidK=[49,46,51,46,57,57,57,57,46,49,46,49] from rfl,show oidS=[49,46,51,46,57,57,57,57,46,49,46,50] from rfl,show oidN=[49,46,51,46,57,57,57,57,46,49,46,51] from rfl] at ht
    first
    |(rw [if_pos h53] at ht;rw [ht];refine .same (.blk rfl (fun j hj=>?_) .nil);have:=sF_k (guessP (l.take i)) (idxW (l.getD i ([],[])).2) j hj;exact this)
    |(rw [if_neg h53,if_pos h55] at ht;rw [ht];exact .same (.blk rfl (fun j hj=>sF_s _ _ j hj) .nil))
    |(rw [if_neg h53,if_neg h55,if_pos h57] at ht;rw [ht];exact .same (.blk rfl (fun j hj=>sF_n _ _ j hj) .nil))
    |(rw [if_neg h53,if_neg h55,if_neg h57] at ht;rw [ht];exact .same (.same .nil))
  refine jU 100050100200 ?_
  refine jqm (jmst 1 ?_)
  refine jU 851920084004005 ?_
  refine jlend (i+1) ?_ ?_ (h5:=?_) (h7:=?_)
  ·show i+1≤l.length;omega
  ·show l.length-(i+1)<l.length-i;omega
  ·exact .cons (cI (by omega)) .nil
  ·have ht:=guess_take (l:=l) (i:=i) (by omega)
   unfold stepP at ht
   rw [show oidK=[49,46,51,46,57,57,57,57,46,49,46,49] from rfl,show oidS=[49,46,51,46,57,57,57,57,46,49,46,50] from rfl,show oidN=[49,46,51,46,57,57,57,57,46,49,46,51] from rfl] at ht
   first
   |(rw [if_pos h53] at ht;rw [ht];refine .same (.blk rfl (fun j hj=>?_) .nil);have:=sF_k (guessP (l.take i)) (idxW (l.getD i ([],[])).2) j hj;exact this)
   |(rw [if_neg h53,if_pos h55] at ht;rw [ht];exact .same (.blk rfl (fun j hj=>sF_s _ _ j hj) .nil))
   |(rw [if_neg h53,if_neg h55,if_pos h57] at ht;rw [ht];exact .same (.blk rfl (fun j hj=>sF_n _ _ j hj) .nil))
   |(rw [if_neg h53,if_neg h55,if_neg h57] at ht;rw [ht];exact .same (.same .nil))
end
section
variable {gs:List Nat} [OkG gs]
end
section
variable {gs:List Nat} [OkG gs]
end
section
open Go.RowKit Cal
def v8 (t:List UInt8):VV:=⟨8,0,false,[],t⟩
def v7 (t:List UInt8) (most:Int):VV:=⟨7,most,false,[],t⟩
def w1 (tag:Int):VV:=⟨1,tag,false,[],[]⟩
def w2:VV:=⟨2,0,false,[],[]⟩
def pv (p:P2):List VV:=[w1 48,v8 p.1,v7 p.2 64,w2]
def namesV (s:S3):List VV:=w1 48::((partsS s).flatMap pv++[w2])
def putS (s:S3) (w:W8):W8:=if rightS s=true then doAll (namesV s) w else failW 9 w
def rputS9 (s:S3) (r:R8):R8:=if rightS s=true then rdoAll (namesV s) r else ⟨r.tags,r.rows,if r.e=0 then 9 else r.e⟩
theorem do_w1 (tag:Int) (s:W8):doW (w1 tag) s=openW tag s:=by unfold doW;rw [if_pos (show (w1 tag).kind=1 from rfl)];rfl
theorem do_w2 (s:W8):doW w2 s=closeV s:=by unfold doW;rw [if_neg (show ¬ w2.kind=1 by decide),if_pos (show w2.kind=2 from rfl)]
theorem do_v8 (t:List UInt8) (s:W8):doW (v8 t) s=putW 6 (putM t) (parseM t).2 s:=by
 unfold doW
 rw [if_neg (show ¬ (v8 t).kind=1 by show ¬ (8:Int)=1;decide),if_neg (show ¬ (v8 t).kind=2 by show ¬ (8:Int)=2;decide),if_neg (show ¬ (v8 t).kind=11 by show ¬ (8:Int)=11;decide)]
 rfl
theorem do_v7 (t:List UInt8) (m:Int) (s:W8):doW (v7 t m) s=putW 12 (if askedM t m=0 then t else []) (askedM t m) s:=by
 unfold doW
 rw [if_neg (show ¬ (v7 t m).kind=1 by show ¬ (7:Int)=1;decide),if_neg (show ¬ (v7 t m).kind=2 by show ¬ (7:Int)=2;decide),if_neg (show ¬ (v7 t m).kind=11 by show ¬ (7:Int)=11;decide)]
 rfl
theorem lab_ascii {l:List UInt8} (h:labM l=true):(∀ c ∈ l,32≤c.toNat∧c.toNat<127)∧l≠[]∧l.length≤24:=by
 simp only [labM,Bool.and_eq_true,decide_eq_true_eq,List.all_eq_true] at h
 obtain ⟨⟨⟨⟨h1,h2⟩,_⟩,_⟩,h5⟩:=h
 refine ⟨fun c hc=>?_,h1,h2⟩
 have:=h5 c hc
 simp only [lch,Bool.or_eq_true,Bool.and_eq_true,decide_eq_true_eq] at this
 omega
theorem plain_ascii:∀ {l:List UInt8},(∀ c ∈ l,32≤c.toNat∧c.toNat<127)→plainM l=true
 | [],_=>rfl
 | c::l,h=>by
  have hc:=h c List.mem_cons_self
  have e:bt (c::l) 0=c.toNat:=rfl
  rw [ref_ascii (by simp) (by rw [e];omega),e,if_neg (by omega)]
  exact plain_ascii fun d hd=>h d (List.mem_cons_of_mem _ hd)
theorem asked_ascii {l:List UInt8} {m:Int} (h:∀ c ∈ l,32≤c.toNat∧c.toNat<127) (h0:l≠[]) (hm:(l.length:Int)≤m):askedM l m=0:=by
 have hp:=List.length_pos_iff.2 h0
 unfold askedM
 rw [if_neg (by omega),if_neg (by omega),if_neg (by rw [plain_ascii h];decide)]
theorem asked_len {l:List UInt8} {m:Int} (h:askedM l m=0):(l.length:Int)≤m:=by
 unfold askedM at h
 by_cases h0:l.length=0
 ·rw [if_pos h0] at h;cases h
 ·rw [if_neg h0] at h
  by_cases h1:m<l.length
  ·rw [if_pos h1] at h;cases h
  ·omega
def GoodP (p:P2):Prop:=(parseM p.1).2=0∧askedM p.2 64=0
def innerX (p:P2):List (Int×List UInt8):=[(6,putM p.1),(12,p.2)]
def partX (p:P2):Int×List UInt8:=(48,((innerX p).map elB).flatten)
def partB (p:P2):List UInt8:=elB (partX p)
def subX (s:S3):Int×List UInt8:=(48,(((partsS s).map partX).map elB).flatten)
def subB (s:S3):List UInt8:=elB (subX s)
theorem oids_good:(parseM oidK).2=0∧(parseM oidS).2=0∧(parseM oidN).2=0:=by decide +kernel
theorem word_ascii {k:Int} (h1:1≤k) (h5:k≤5):(∀ c ∈ wordM k,32≤c.toNat∧c.toNat<127)∧wordM k≠[]∧(wordM k).length≤8:=by
 obtain rfl|rfl|rfl|rfl|rfl:=kinds h1 h5 <;> decide
theorem good_parts {s:S3} (h:rightS s=true):(∀ p ∈ partsS s,GoodP p∧p.1.length=12∧p.2.length≤24)∧(partsS s).length≤3:=by
 obtain ⟨h1,h5,hn,h2,hs⟩:=(right_iff s).1 h
 have hw:=word_ascii h1 h5
 have hn':=lab_ascii hn
 have gk:GoodP (oidK,wordM s.1)∧(oidK,wordM s.1).1.length=12∧(oidK,wordM s.1).2.length≤24:=⟨⟨oids_good.1,asked_ascii hw.1 hw.2.1 (by have:=hw.2.2;show ((wordM s.1).length:Int)≤64;omega)⟩,rfl,by have:=hw.2.2;dsimp only;omega⟩
 have gn:GoodP (oidN,s.2.2)∧(oidN,s.2.2).1.length=12∧(oidN,s.2.2).2.length≤24:=⟨⟨oids_good.2.2,asked_ascii hn'.1 hn'.2.1 (by have:=hn'.2.2;show (s.2.2.length:Int)≤64;omega)⟩,rfl,hn'.2.2⟩
 rw [parts_ref h]
 by_cases hk:s.1=2
 ·have hsp:=lab_ascii (h2 hk)
  have gs:GoodP (oidS,s.2.1)∧(oidS,s.2.1).1.length=12∧(oidS,s.2.1).2.length≤24:=⟨⟨oids_good.2.1,asked_ascii hsp.1 hsp.2.1 (by have:=hsp.2.2;show (s.2.1.length:Int)≤64;omega)⟩,rfl,hsp.2.2⟩
  rw [if_pos hk]
  refine ⟨fun p hp=>?_,by simp⟩
  rcases List.mem_cons.1 hp with rfl|hp
  ·exact gk
  ·rcases List.mem_cons.1 hp with rfl|hp
   ·exact gs
   ·rw [List.mem_singleton.1 hp];exact gn
 ·rw [if_neg hk]
  refine ⟨fun p hp=>?_,by simp⟩
  rcases List.mem_cons.1 hp with rfl|hp
  ·exact gk
  ·rw [List.mem_singleton.1 hp];exact gn
theorem part9_len {p:P2} (h:GoodP p) (h1:p.1.length≤300):(((innerX p).map elB).flatten).length≤1000∧(putM p.1).length≤600∧p.2.length≤64:=by
 have h2:=put_len p.1
 have h3:=asked_len h.2
 have h4:=putL_len 6 (putM p.1)
 have h5:=putL_len 12 p.2
 simp only [innerX,elB,List.map_cons,List.map_nil,List.flatten_cons,List.flatten_nil,List.append_nil,List.length_append]
 omega
theorem addW_in (b:List UInt8) {t:Int} {ls:List (List UInt8)} {fr:List (Int×List (List UInt8))} {d:List UInt8}:addW b ⟨(t,ls)::fr,d,0⟩=⟨(t,ls++[b])::fr,d,0⟩:=rfl
theorem do_part {p:P2} (h:GoodP p) (h1:p.1.length≤300) {s:W8} (hk:s.k=0) (hf:s.fr.length<16):doAll (pv p) s=addW (partB p) s:=by
 obtain ⟨l1,l2,l3⟩:=part9_len h h1
 obtain ⟨fr,d,k⟩:=s
 simp only at hk hf
 subst hk
 show doW w2 (doW (v7 p.2 64) (doW (v8 p.1) (doW (w1 48) ⟨fr,d,0⟩)))=_
 rw [do_w1,open_ok rfl (by decide) hf,do_v8,h.1,put_ok rfl (by decide) (by omega),addW_in,do_v7,h.2,if_pos rfl,put_ok rfl (by decide) (by omega),addW_in,do_w2]
 have e:([]++[putL 6 (putM p.1)]++[putL 12 p.2]:List (List UInt8)).flatten=((innerX p).map elB).flatten:=rfl
 rw [close_ok (by decide) (by decide) (by rw [e];omega),e]
 rfl
theorem do_parts:∀ (ps:List P2) {ls:List (List UInt8)} {fr:List (Int×List (List UInt8))} {d:List UInt8},(∀ p ∈ ps,GoodP p∧p.1.length≤300)→fr.length<15→doAll (ps.flatMap pv) ⟨(48,ls)::fr,d,0⟩=⟨(48,ls++ps.map partB)::fr,d,0⟩
 | [],ls,fr,d,_,_=>by simp [doAll]
 | p::ps,ls,fr,d,h,hf=>by
  rw [List.flatMap_cons,doAll_app,do_part (h p List.mem_cons_self).1 (h p List.mem_cons_self).2 rfl (by simp only [List.length_cons];omega),addW_in,do_parts ps (fun q hq=>h q (List.mem_cons_of_mem _ hq)) hf]
  simp
theorem sub_len {s:S3} (h:rightS s=true):(((partsS s).map partX).map elB).flatten.length≤4000∧(subB s).length≤4100:=by
 obtain ⟨h1,h2⟩:=good_parts h
 have key:∀ ps:List P2,(∀ p ∈ ps,GoodP p∧p.1.length=12∧p.2.length≤24)→((ps.map partX).map elB).flatten.length≤1010 * ps.length:=fun ps=>by
  induction ps with
  | nil=>intro _;simp
  | cons p ps ih =>
   intro h
   have h3:=ih fun q hq=>h q (List.mem_cons_of_mem _ hq)
   obtain ⟨h4,h5,_⟩:=h p List.mem_cons_self
   have h6:=part9_len h4 (by omega)
   have h7:=putL_len 48 ((innerX p).map elB).flatten
   have h8:(elB (partX p)).length=(putL 48 ((innerX p).map elB).flatten).length:=rfl
   simp only [List.map_cons,List.flatten_cons,List.length_append,List.length_cons]
   omega
 have h3:=key _ h1
 have h4:=putL_len 48 (((partsS s).map partX).map elB).flatten
 have h5:(subB s).length=(putL 48 (((partsS s).map partX).map elB).flatten).length:=rfl
 omega
theorem putS_ok {s:S3} (h:rightS s=true) {w:W8} (hk:w.k=0) (hf:w.fr.length<15):putS s w=addW (subB s) w:=by
 obtain ⟨h1,h2⟩:=good_parts h
 obtain ⟨l1,l2⟩:=sub_len h
 obtain ⟨fr,d,k⟩:=w
 simp only at hk hf
 subst hk
 unfold putS
 rw [if_pos h]
 show doAll ((partsS s).flatMap pv++[w2]) (doW (w1 48) ⟨fr,d,0⟩)=_
 rw [do_w1,open_ok rfl (by decide) (by dsimp only;omega),doAll_app,do_parts _ (fun p hp=>⟨(h1 p hp).1,by have:=(h1 p hp).2.1;omega⟩) hf]
 rw [show ∀ X,doAll [w2] X=doW w2 X from fun _=>rfl,do_w2]
 have e:([]++(partsS s).map partB:List (List UInt8)).flatten=(((partsS s).map partX).map elB).flatten:=by rw [List.nil_append,List.map_map];rfl
 rw [close_ok (by decide) (by decide) (by rw [e];omega),e]
 rfl
def w00:W8:=⟨[],[],0⟩
theorem small_w1 {t:Int} (h:-9223372036854775808≤t∧t≤9223372036854775807):SmallV (w1 t):=⟨h,by simp [w1],by simp [w1]⟩
theorem small_w2:SmallV w2:=⟨by simp [w2],by simp [w2],by simp [w2]⟩
theorem small_v8 {t:List UInt8} (h:t.length≤300):SmallV (v8 t):=⟨by simp [v8],by simp [v8],h⟩
theorem small_v7 {t:List UInt8} (h:t.length≤300):SmallV (v7 t 64):=⟨by simp [v7],by simp [v7],h⟩
theorem small_pv {p:P2} (h1:p.1.length≤300) (h2:p.2.length≤300):∀ v ∈ pv p,SmallV v:=fun v hv=>by
 simp only [pv,List.mem_cons,List.not_mem_nil,or_false] at hv
 rcases hv with rfl|rfl|rfl|rfl
 ·exact small_w1 (by decide)
 ·exact small_v8 h1
 ·exact small_v7 h2
 ·exact small_w2
theorem pvs_len:∀ ps:List P2,(ps.flatMap pv).length=4 * ps.length
 | []=>rfl
 | p::ps=>by
  rw [List.flatMap_cons,List.length_append,pvs_len ps,List.length_cons]
  show 4+_=_
  omega
theorem inv_putS {i:Nat} {r:R8} {w:W8} (hI:Inv8 i r w) (s:S3):Inv8 (i+14) (rputS9 s r) (putS s w):=by
 unfold rputS9 putS
 by_cases h:rightS s=true
 ·rw [if_pos h,if_pos h]
  obtain ⟨h1,h2⟩:=good_parts h
  have hl:(namesV s).length≤14:=by
   unfold namesV
   rw [List.length_cons,List.length_append,pvs_len]
   simp only [List.length_singleton]
   omega
  refine inv_mono (inv_all (namesV s) hI fun v hv=>?_) (by omega)
  unfold namesV at hv
  rcases List.mem_cons.1 hv with rfl|hv
  ·exact small_w1 (by decide)
  ·rcases List.mem_append.1 hv with hv|hv
   ·obtain ⟨p,hp,hv⟩:=List.mem_flatMap.1 hv
    obtain ⟨_,h3,h4⟩:=h1 p hp
    exact small_pv (by omega) (by omega) v hv
   ·rw [List.mem_singleton.1 hv];exact small_w2
 ·rw [if_neg h,if_neg h]
  exact inv_mono (inv_fail hI 9) (by omega)
def aL:AA:=⟨1,48,0,0⟩
def aO:AA:=⟨8,0,0,0⟩
def aT:AA:=⟨7,0,0,64⟩
def aE:AA:=⟨2,0,0,0⟩
def partSp:StepR P2:=fun l k =>
 let r1:=readR aL l k
 let r2:=readR aO r1.l r1.k
 let r3:=readR aT r2.l r2.k
 let r4:=readR aE r3.l r3.k
 ((r4.l,r4.k),(r2.v.t,r3.v.t))
theorem said_O (b:List UInt8):saidM aO b=(vT (ogetM b).1,(ogetM b).2):=rfl
theorem said_T (b:List UInt8):saidM aT b=(vT (if askedM b 64=0 then b else []),askedM b 64):=rfl
theorem part_ok:StepOk partSp:=by
 have key:∀ l k,0<l.length→moreM l k=true→muS (partSp l k).1.1 (partSp l k).1.2<muS l k∧((partSp l k).1.2=0→(partSp l k).1.1.length=l.length)∧l.length≤(partSp l k).1.1.length∧(partSp l k).1.1.length≤l.length+16:=by
  intro l k hl hm
  have hk:=(more_pos hm).1
  obtain ⟨a1,a2,a3,a4,a5,a6,a7⟩:=read_mu aL (l:=l) (k:=k) hl
  have a3':=a3 hk (by decide)
  obtain ⟨a41,a42⟩:=a4 rfl
  have p1:l.length≤(readR aL l k).l.length∧(readR aL l k).l.length≤l.length+1:=by
   by_cases h:(readR aL l k).k=0
   ·have:=a41 h;omega
   ·have:=a42 h;omega
  obtain ⟨b1,b2,b3,b4,b5,b6,b7⟩:=read_mu aO (l:=(readR aL l k).l) (k:=(readR aL l k).k) (by omega)
  have b6':=b6 (by decide) (by decide)
  obtain ⟨c1,c2,c3,c4,c5,c6,c7⟩:=read_mu aT (l:=(readR aO (readR aL l k).l (readR aL l k).k).l) (k:=(readR aO (readR aL l k).l (readR aL l k).k).k) (by omega)
  have c6':=c6 (by decide) (by decide)
  obtain ⟨d1,d2,d3,d4,d5,d6,d7⟩:=read_mu aE (l:=(readR aT (readR aO (readR aL l k).l (readR aL l k).k).l (readR aO (readR aL l k).l (readR aL l k).k).k).l) (k:=(readR aT (readR aO (readR aL l k).l (readR aL l k).k).l (readR aO (readR aL l k).l (readR aL l k).k).k).k) (by omega)
  obtain ⟨d51,d52⟩:=d5 rfl
  show muS (readR aE _ _).l (readR aE _ _).k<_∧((readR aE _ _).k=0→(readR aE _ _).l.length=_)∧_≤(readR aE _ _).l.length∧(readR aE _ _).l.length≤_
  refine ⟨by omega,fun h=>?_,?_,?_⟩
  ·have:=d51 h
   have:=a41 (b7 (c7 (d7 h)))
   omega
  ·by_cases h:(readR aE (readR aT (readR aO (readR aL l k).l (readR aL l k).k).l (readR aO (readR aL l k).l (readR aL l k).k).k).l (readR aT (readR aO (readR aL l k).l (readR aL l k).k).l (readR aO (readR aL l k).l (readR aL l k).k).k).k).k=0
   ·have:=d51 h
    have:=a41 (b7 (c7 (d7 h)))
    omega
   ·have:=d52 h;omega
  ·by_cases h:(readR aE (readR aT (readR aO (readR aL l k).l (readR aL l k).k).l (readR aO (readR aL l k).l (readR aL l k).k).k).l (readR aT (readR aO (readR aL l k).l (readR aL l k).k).l (readR aO (readR aL l k).l (readR aL l k).k).k).k).k=0
   ·have:=d51 h;omega
   ·have:=d52 h;omega
 exact ⟨fun l k h1 h2=>(key l k h1 h2).1,fun l k h1 h2=>(key l k h1 h2).2.1,fun l k h1 h2=>(key l k h1 h2).2.2⟩
theorem part_body (p:P2):((innerX p).map elB).flatten=putL 6 (putM p.1)++(putL 12 p.2++[]):=by simp [innerX,elB]
def GoodR (p:P2):Prop:=GoodP p∧(putM p.1).length≤65530∧(((innerX p).map elB).flatten).length≤65530
theorem part_fb:StepFB partSp partB GoodR:=by
 refine ⟨fun ls p r h=>?_,fun ls x k h=>?_,fun p _=>elB_pos _⟩
 ·obtain ⟨⟨h1,h2⟩,h3,h4⟩:=h
  have h5:=asked_len h2
  obtain ⟨e1,e2,_⟩:=enter_fwd ls (t:=48) (b:=((innerX p).map elB).flatten) r (by decide) h4
  obtain ⟨f1,f2⟩:=read_enter aL rfl (ls++[partB p++r]) 0
  have g1:(readR aL (ls++[partB p++r]) 0).l=ls++[r]++[putL 6 (putM p.1)++(putL 12 p.2++[])]:=by rw [f1,← part_body];exact e1
  have g2:(readR aL (ls++[partB p++r]) 0).k=0:=f2.trans e2
  have hpm:putM p.1=putA (parseM p.1).1:=by unfold putM;rw [if_pos h1]
  have hO:saidM aO (putM p.1)=(vT p.1,0):=by rw [said_O,hpm,get_of_put h1]
  have hT:saidM aT p.2=(vT p.2,0):=by rw [said_T,h2,if_pos rfl]
  have g3:=read_fwd aO (ls++[r]) (b:=putM p.1) (putL 12 p.2++[]) (by decide) h3 (by rw [hO])
  have g4:=read_fwd aT (ls++[r]) (b:=p.2) [] (by decide) (by omega) (by rw [hT])
  have g5:=leave_fwd (ls:=ls++[r]) (by simp)
  obtain ⟨g6,g7⟩:=read_leave aE rfl (ls++[r]++[[]]) 0
  have tO:tagA aO=6:=rfl
  have tT:tagA aT=12:=rfl
  rw [tO] at g3
  rw [tT] at g4
  unfold partSp
  dsimp only
  rw [g1,g2,g3]
  dsimp only
  rw [g4]
  dsimp only
  rw [g6,g7,g5.1,g5.2,hO,hT]
  rfl
 ·have hk4:(readR aE (readR aT (readR aO (readR aL (ls++[x]) k).l (readR aL (ls++[x]) k).k).l (readR aO (readR aL (ls++[x]) k).l (readR aL (ls++[x]) k).k).k).l (readR aT (readR aO (readR aL (ls++[x]) k).l (readR aL (ls++[x]) k).k).l (readR aO (readR aL (ls++[x]) k).l (readR aL (ls++[x]) k).k).k).k).k=0:=h
  have len1:0<(readR aL (ls++[x]) k).l.length:=by
   obtain ⟨a1,a2,a3,a4,_⟩:=read_mu aL (l:=ls++[x]) (k:=k) (by simp)
   obtain ⟨a41,a42⟩:=a4 rfl
   by_cases h:(readR aL (ls++[x]) k).k=0
   ·rw [a41 h];omega
   ·rw [a42 h];simp
  obtain ⟨_,_,_,_,_,b6,b7⟩:=read_mu aO (l:=(readR aL (ls++[x]) k).l) (k:=(readR aL (ls++[x]) k).k) len1
  have b6':=b6 (by decide) (by decide)
  obtain ⟨_,_,_,_,_,c6,c7⟩:=read_mu aT (l:=(readR aO (readR aL (ls++[x]) k).l (readR aL (ls++[x]) k).k).l) (k:=(readR aO (readR aL (ls++[x]) k).l (readR aL (ls++[x]) k).k).k) (by omega)
  have c6':=c6 (by decide) (by decide)
  obtain ⟨_,_,_,_,_,_,d7⟩:=read_mu aE (l:=(readR aT (readR aO (readR aL (ls++[x]) k).l (readR aL (ls++[x]) k).k).l (readR aO (readR aL (ls++[x]) k).l (readR aL (ls++[x]) k).k).k).l) (k:=(readR aT (readR aO (readR aL (ls++[x]) k).l (readR aL (ls++[x]) k).k).l (readR aO (readR aL (ls++[x]) k).l (readR aL (ls++[x]) k).k).k).k) (by omega)
  have hk3:=d7 hk4
  have hk2:=c7 hk3
  have hk1:=b7 hk2
  obtain ⟨f1,f2⟩:=read_enter aL rfl (ls++[x]) k
  obtain ⟨hk0,b,r,e1,e2,e3,e4⟩:=enter_back (t:=48) (by decide) (show (enterR 48 (ls++[x]) k).k=0 from f2.symm.trans hk1)
  have g1:(readR aL (ls++[x]) k).l=ls++[r]++[b]:=f1.trans e3
  rw [g1,hk1] at hk2 hk3 hk4
  obtain ⟨_,o,r2,o1,o2,o3,o4⟩:=read_back (a:=aO) (by decide) hk2
  rw [o4] at hk3 hk4
  obtain ⟨_,t,r3,t1,t2,t3,t4⟩:=read_back (a:=aT) (by decide) hk3
  rw [t4] at hk4
  obtain ⟨f3,f4⟩:=read_leave aE rfl (ls++[r]++[r3]) 0
  dsimp only at hk4
  rw [f4] at hk4
  obtain ⟨_,u1,u2,u3⟩:=leave_back hk4
  subst u1
  have o3':(ogetM o).2=0:=o3
  have t3':askedM t 64=0:=t3
  obtain ⟨q1,q2⟩:=oget_canon o3'
  have hO:(saidM aO o).1.t=(ogetM o).1:=rfl
  have hT:(saidM aT t).1.t=t:=by rw [said_T];show (if askedM t 64=0 then t else [])=t;rw [if_pos t3']
  have hb:b=((innerX ((ogetM o).1,t)).map elB).flatten:=by
   rw [part_body,o1,t1]
   show putL 6 o++(putL 12 t++[])=putL 6 (putM (ogetM o).1)++_
   rw [q1]
  refine ⟨hk0,((ogetM o).1,t),r,⟨⟨q2,t3'⟩,by rw [q1];exact o2,by rw [← hb];exact e2⟩,?_,?_⟩
  ·rw [e1,hb];rfl
  ·unfold partSp
   dsimp only
   rw [g1,hk1,o4]
   dsimp only
   rw [t4]
   dsimp only
   rw [f3,f4,u3,hk4,hO,hT]
def endP (l:List (List UInt8)) (k:Nat):List (List UInt8)×Nat:=endG partSp (enterL 48 l k) (enterR 48 l k).k 8
def listP (l:List (List UInt8)) (k:Nat):List P2:=(stG partSp (enterL 48 l k) (enterR 48 l k).k (jG partSp (enterL 48 l k) (enterR 48 l k).k 8)).2
def getS (l:List (List UInt8)) (k:Nat):(List (List UInt8)×Nat)×S3 :=
 if (endP l k).2≠0 then (endP l k,zeroS) else (((endP l k).1,(ofP (listP l k)).2),(ofP (listP l k)).1)
def readS (b:List UInt8):S3×Nat :=
 let g:=getS [b] (depthM b).2
 if endK g.1.1 g.1.2≠0 then (zeroS,endK g.1.1 g.1.2) else (g.2,0)
theorem parts_enc (s:S3):((partsS s).map partB).flatten=(((partsS s).map partX).map elB).flatten:=by rw [List.map_map];rfl
theorem good_R {p:P2} (h:GoodP p) (h1:p.1.length≤300):GoodR p:=by
 obtain ⟨l1,l2,l3⟩:=part9_len h h1
 exact ⟨h,by omega,by omega⟩
theorem getS_fwd {s:S3} (h:rightS s=true) (ls:List (List UInt8)) (r:List UInt8):getS (ls++[subB s++r]) 0=((ls++[r],0),s):=by
 obtain ⟨h1,h2⟩:=good_parts h
 obtain ⟨l1,l2⟩:=sub_len h
 have e:subB s=putL 48 ((partsS s).map partB).flatten:=by rw [parts_enc];rfl
 obtain ⟨r1,r2⟩:=row_fwd part_ok part_fb (tag:=48) (most:=8) ls (xs:=partsS s) r (by decide) (fun p hp=>good_R (h1 p hp).1 (by have:=(h1 p hp).2.1;omega)) (by omega) (by rw [parts_enc];omega)
 rw [← e] at r1 r2
 have hE:endP (ls++[subB s++r]) 0=(ls++[r],0):=r1
 have hL:listP (ls++[subB s++r]) 0=partsS s:=r2
 have ho:ofP (partsS s)=(s,0):=(ofP_iff _ _).2 ⟨h,rfl⟩
 unfold getS
 rw [hE,hL,ho,if_neg (by simp)]
end
section
variable {gs:List Nat} [OkG gs]
end
section
variable {gs:List Nat} [Ok9 gs]
open Go.RowKit Cal

def valF (v:VV):Nat→CV:=fl [.c (.int .i64 v.kind),.c (.int .i64 v.n),.c (.bool v.is),bsC v.b,strC v.t]
def vsC (vs:List VV):CV:=.rs 5 vs.length fun i j=>valF (vs.getD i VV.none) j
def bigV (v:VV):Bool:=decide (300<v.b.length) || decide (300<v.t.length)
def longM (vs:List VV):Bool:=decide (60<vs.length) || vs.any bigV
def r0W:R8:=⟨[],[],0⟩
theorem newRW {G:Gh} {env:List (Nat×CV)} {b0:Nat→CV} {H:List (Option Nat×Res)} (n i:Nat) {f:Nat→CV} (hi:H[i]?=some (some n,.blk 3 f)) (h0:CEnt (f 0) (.c (.slice none 0 0))) (h1:CEnt (f 1) (.c (.slice none 0 0))) (h2:CEnt (f 2) (.c (.int .i64 0))):EntS G ⟨env,b0,H⟩ ⟨env,b0,H.set i (rwO n r0W)⟩:=by
 have hil:=(List.getElem?_eq_some_iff.1 hi).1
 have os0:∀ {j k:Nat},CEnt (.c (.slice none 0 0)) (.os j none 0 0 k):=fun al St w v h=>⟨rfl,h⟩
 intro St a w hr
 obtain ⟨S1,s1,r1⟩:=ent_none (G:=G) (s:=⟨env,b0,H⟩) (rowsF []) St a w hr
 obtain ⟨S4,s4,r4⟩:=closeRW (G:=G) (env:=env) (b0:=b0) (H:=H++[(none,.blk 0 (rowsF []))]) n r0W i H.length (gr:=none) (N:=0) (f:=f) (F:=rowsF [])
  (by rw [List.getElem?_append_left hil];exact hi) (by simp) (by cases e:Nat.beq i H.length with|false=>rfl|true=>have:=Nat.eq_of_beq_eq_true e;omega) (h0.trans (CEnt.nilS _ _)) (h1.trans os0) h2 (Nat.le_refl _) (fun a h=>absurd h (Nat.not_lt_zero a)) S1 a w r1
 obtain ⟨S5,s5,r5⟩:=pick_ent (G:=G) (H':=H.set i (rwO n r0W)) (List.range H.length) (range_nodup _) (by
  rw [pickL_range _ _ (by simp)]
  rw [take_set_out _ _ _ _ (by omega),List.take_set,List.take_left]) S4 a w r4
 exact ⟨S5,fun b hb=>s5 b (s4 b (s1 b hb)),r5⟩
end
section
section
variable {P:Program} {G:Gh} {o:Oper} {env:List (Nat×CV)} {b0:Nat→CV} {H:List (Option Nat×Res)} {K:AS→Prop}
theorem m_callHV1 {f:FuncId} {v:Operand} {n d:Nat} {fv:Nat→CV} {xs:Array Operand} {ats:Array TypeId} {args:List CV} {Q:CV→List (Option Nat×Res)→Prop} {i:Nat} {x0:Option Nat×Res} (ho:o.op=.call ⟨.value v,xs,ats⟩) (hv:(⟨env,b0,H⟩:AS).eval v=.fn f n fv) (hc:calleeB P f=true) (hi:H[i]?=some x0) (hA:AC G.gs P f [x0] args Q)
  (he:EntL (xs.toList.map (⟨env,b0,H⟩:AS).eval++(List.range n).map fv) args) (hd:o.dst=some d) (hN:Nat.blt d G.N=true)
  (hK:∀ r H',Q r H'→∃ x,H'=[x]∧K ⟨(d,r)::env,b0,H.set i x⟩):AMd P G o ⟨env,b0,H⟩ K :=
 m_callHV ho hv hc hi hA he (dst_s hd hN) (fun r H' hq=>by obtain ⟨x,h1,h2⟩:=hK r H' hq;exact ⟨x,h1,by rw [with_some hd];exact h2⟩)
end
end
section
variable {gs:List Nat} [OkG gs] [OkT gs]
open Go.RowKit Cal

def partV (p:P2):CV:=.agg 2 (partE p)
set_option maxHeartbeats 1000000 in
theorem rowsP_ac {gs:List Nat} [Ok9 gs] {f:FuncId} (hc:calleeB Tryz.prog f=true) (n:Nat) (tag:Int) (ws:W8) (l:List P2) (sG:Nat→W8) (h0:OkW ws) (hs:sG 0=openW tag ws) (hok:∀ i,i≤l.length→OkW (sG i)) (hl:l.length≤1000000) (hf:∀ i,i<l.length→AC gs Tryz.prog f [wrO n (sG i)] [.op 0 (some n) 0,partV (l.getD i ([],[]))] (fun r H'=>r=.c (.tuple #[])∧H'=[wrO n (sG (i+1))])) :
  AC gs Tryz.prog 171 [wrO n ws] [.op 0 (some n) 0,.c (.int .i64 tag),partsC l,.fn f 0 fun _=>.top] (fun r H'=>r=.c (.tuple #[])∧H'=[wrO n (closeV (sG l.length))]):=by
 refine ac_of 26 Tryz.func171 rfl rfl rfl (fun al w0 F0 St0=>?_)
 refine jU 116 ?_
 refine jqm (jmcH 0 (openW_ac n ws tag h0) ?_)
 rintro _ _ ⟨rfl,rfl⟩
 refine ⟨_,_,rfl,cZ,?_⟩
 refine jU 205131675 ?_;refine l_loop (α:=Nat) [9,15,16,17,18,19,20,21,22,23] (fun i=>[(15,.c (.int .i64 (i:Nat)))]) (fun i=>[wrO n (sG i)]) (fun i=>i≤l.length) (fun i=>l.length-i) (0) ?_ (fun _=>rfl) ?_ ?_ ?_
 ·exact Nat.zero_le _
 ·exact .cons cZ .nil
 ·rw [hs];exact HEnt.refl _
 ·rintro i (hi:i≤l.length)
  refine jU 7526 ?_;refine jcc (fun h305=>?_) fun h305=>?_
  rotate_left
  ·refine jU 84000200020006000 ?_
   have hie:i=l.length:=by omega
   subst hie
   refine jU 1200 ?_
   refine jqm (jmcH 0 (closeW_ac n (sG l.length) (hok _ (Nat.le_refl _))) ?_)
   rintro _ _ ⟨rfl,rfl⟩
   refine ⟨_,_,rfl,cZ,?_⟩
   refine jU 5 ?_
   exact end_own (.inr rfl) _ [_] [0] (by decide) rfl (res_0 rfl) ⟨rfl,rfl⟩
  refine jU 7006207810 ?_;refine jq (jrdrA 2) ?_
  refine jqe (jeal (n:=2) zr212 rfl fun p2=>?_)
  refine jqm (jmstF 2 (partE (l.getD i ([],[]))) ?_ ?_)
  ·exact (fun j hj=>by rcases j with _|_|j <;> first|exact cZ|omega)
  refine jU 112005 ?_;refine jqo (jrdoA 2) ?_
  refine jqm (m_callHV1 (i:=0) rfl rfl (by assumption) rfl (hf i (by omega)) (.cons cP (.cons (CEnt.agg rfl (fun j hj=>CEnt.of_eq (by show partE _ (0+j)=partE _ j;rw [Nat.zero_add]))) .nil)) rfl rfl ?_)
  rintro _ _ ⟨rfl,rfl⟩
  refine ⟨_,rfl,?_⟩
  refine jU 851920084005 ?_
  refine jlend (i+1) ?_ ?_ (h5:=?_) (h7:=?_)
  ·show i+1≤l.length;omega
  ·show l.length-(i+1)<l.length-i;omega
  ·exact .cons (cI (by omega)) .nil
  ·exact HEnt.refl _
theorem putP_ac (n:Nat) {i:Nat} {r:R8} {s:W8} (hI:Inv8 i r s) (hi:i≤900) (p:P2) (h1:p.1.length≤300) (h2:p.2.length≤300):AC gs Tryz.prog 172 [wrO n s] [.op 0 (some n) 0,partV p] (fun r H'=>r=.c (.tuple #[])∧H'=[wrO n (doAll (pv p) s)]):=by
 have I1:=inv_do hI (small_w1 (t:=48) (by decide))
 rw [do_w1] at I1
 have I2:=inv_do I1 (small_v8 h1)
 rw [do_v8] at I2
 have I3:=inv_do I2 (small_v7 h2)
 rw [do_v7] at I3
 have hD:doAll (pv p) s=closeV (putW 12 (if askedM p.2 64=0 then p.2 else []) (askedM p.2 64) (putW 6 (putM p.1) (parseM p.1).2 (openW 48 s))):=by
  show doW w2 (doW (v7 p.2 64) (doW (v8 p.1) (doW (w1 48) s)))=_
  rw [do_w1,do_v8,do_v7,do_w2]
 refine ac_of 16 Tryz.func172 rfl rfl rfl (fun al w0 F0 St0=>?_)
 refine jcr ?_
 refine jqe (jebx 2 fun p1=>?_)
 refine jU 165 ?_
 refine jqm (jmcH 0 (openW_ac n s 48 (inv_okW hI (by omega))) ?_)
 rintro _ _ ⟨rfl,rfl⟩
 refine ⟨_,_,rfl,cZ,?_⟩
 refine jU 5090165 ?_
 refine jqm (jmcH 0 (oidW_ac n (openW 48 s) p.1 (by omega) (inv_okW I1 (by omega))) ?_)
 rintro _ _ ⟨rfl,rfl⟩
 refine ⟨_,_,rfl,cZ,?_⟩
 refine jU 50100165 ?_
 refine jqm (jmcH 0 (textW_ac n (putW 6 (putM p.1) (parseM p.1).2 (openW 48 s)) p.2 64 (by omega) (inv_okW I2 (by omega))) ?_)
 rintro _ _ ⟨rfl,rfl⟩
 refine ⟨_,_,rfl,cZ,?_⟩
 refine jU 12005 ?_
 refine jqm (jmcH 0 (closeW_ac n (putW 12 (if askedM p.2 64=0 then p.2 else []) (askedM p.2 64) (putW 6 (putM p.1) (parseM p.1).2 (openW 48 s))) (inv_okW I3 (by omega))) ?_)
 rintro _ _ ⟨rfl,rfl⟩
 refine ⟨_,_,rfl,cZ,?_⟩
 refine jU 5 ?_
 rw [hD]
 exact end_own (.inr rfl) _ [_] [0] (by decide) rfl (res_0 rfl) ⟨rfl,rfl⟩
theorem putG_ac (n:Nat) {i:Nat} {r:R8} {w:W8} (hI:Inv8 i r w) (hi:i≤800) (s:S3) (L:List P2) (e:Nat) (hp:ACp gs Tryz.prog 170 [subjC s] (.tup 2 (fl [partsC L,.err e]))) (hL:∀ p ∈ L,p.1.length≤300∧p.2.length≤300) (hl:L.length≤8) :
  AC gs Tryz.prog 99 [wrO n w] [.op 0 (some n) 0,subjC s] (fun r H'=>r=.c (.tuple #[])∧H'=[wrO n (closeV (doAll (L.flatMap pv) (openW 48 (failW e w))))]):=by
 have I0:=inv_fail hI e
 have I1:=inv_do I0 (small_w1 (t:=48) (by decide))
 rw [do_w1] at I1
 have hG:∀ j,j≤L.length→∃ r',Inv8 (i+1+4 * j) r' (doAll ((L.take j).flatMap pv) (openW 48 (failW e w))):=fun j hj=>by
  refine ⟨_,inv_mono (inv_all ((L.take j).flatMap pv) I1 fun v hv=>?_) ?_⟩
  ·obtain ⟨p,hp,hv⟩:=List.mem_flatMap.1 hv
   have h:=hL p (List.mem_of_mem_take hp)
   exact small_pv h.1 h.2 v hv
  ·rw [pvs_len,List.length_take];omega
 have hS:∀ j,j<L.length→doAll ((L.take (j+1)).flatMap pv) (openW 48 (failW e w))=doAll (pv (L.getD j ([],[]))) (doAll ((L.take j).flatMap pv) (openW 48 (failW e w))):=fun j hj=>by
  rw [List.take_succ_eq_append_getElem hj,List.flatMap_append,doAll_app,List.getD_eq_getElem?_getD,List.getElem?_eq_getElem hj]
  simp
 have hok:∀ j,j≤L.length→OkW (doAll ((L.take j).flatMap pv) (openW 48 (failW e w))):=fun j hj=>by
  obtain ⟨r',h⟩:=hG j hj
  exact inv_okW h (by omega)
 have hf:∀ j,j<L.length→AC gs Tryz.prog 172 [wrO n (doAll ((L.take j).flatMap pv) (openW 48 (failW e w)))] [.op 0 (some n) 0,partV (L.getD j ([],[]))] (fun r H'=>r=.c (.tuple #[])∧H'=[wrO n (doAll ((L.take (j+1)).flatMap pv) (openW 48 (failW e w)))]):=fun j hj=>by
  obtain ⟨r',h⟩:=hG j (by omega)
  have hm:L.getD j ([],[]) ∈ L:=by
   rw [List.getD_eq_getElem?_getD,List.getElem?_eq_getElem hj]
   exact List.getElem_mem _
  rw [hS j hj]
  exact putP_ac n h (by omega) _ (hL _ hm).1 (hL _ hm).2
 have hR:=rowsP_ac (gs:=gs) (f:=172) (by kernel_rfl) n 48 (failW e w) L (fun j=>doAll ((L.take j).flatMap pv) (openW 48 (failW e w))) (inv_okW I0 (by omega)) rfl hok (by omega) hf
 rw [List.take_length] at hR
 refine ac_of 17 Tryz.func99 rfl rfl rfl (fun al w0 F0 St0=>?_)
 refine jcr ?_
 refine jqe (jebx 3 fun p1=>?_)
 refine jU 65 ?_;refine jqo (jrdoA 3) ?_
 refine jqe (jecP hp ?_)
 refine jU 1165119009001 ?_
 refine jqm (jmcH 0 (failW_ac n w e) ?_)
 rintro _ _ ⟨rfl,rfl⟩
 refine ⟨_,_,rfl,cZ,?_⟩
 refine jU 112005 ?_
 refine jqm (jmcH 0 hR ?_ (ho:=rfl) (he:=(.cons (se rfl cP) (.cons (se rfl cZ) (.cons (se rfl cZ) (.cons (se rfl CEnt.fn0) .nil))))))
 rintro _ _ ⟨rfl,rfl⟩
 refine ⟨_,_,rfl,cZ,?_⟩
 refine jU 5 ?_
 exact end_own (.inr rfl) _ [_] [0] (by decide) rfl (res_0 rfl) ⟨rfl,rfl⟩
theorem nput_ac (n:Nat) {i:Nat} {r:R8} {w:W8} (hI:Inv8 i r w) (hi:i≤800) (s:S3):AC gs Tryz.prog 99 [wrO n w] [.op 0 (some n) 0,subjC s] (fun r H'=>r=.c (.tuple #[])∧H'=[wrO n (putS s w)]):=by
 have hp:=nparts_ac (gs:=gs) s
 by_cases hr:rightS s=true
 ·rw [if_pos hr,if_pos hr] at hp
  obtain ⟨h1,h2⟩:=good_parts hr
  have h:=putG_ac n hI hi s _ _ hp (fun p hp=>by have:=h1 p hp;omega) (by omega)
  have e:putS s w=closeV (doAll ((partsS s).flatMap pv) (openW 48 (failW 0 w))):=by
   unfold putS
   rw [if_pos hr,failW_zero]
   show doAll ((partsS s).flatMap pv++[w2]) (doW (w1 48) w)=_
   rw [do_w1,doAll_app]
   exact do_w2 _
  rw [e]
  exact h
 ·rw [if_neg hr,if_neg hr] at hp
  have h:=putG_ac n hI hi s _ _ hp (fun p hp=>by cases hp) (by decide)
  have hk:(failW 9 w).k≠0:=by
   unfold failW
   split
   ·show (9:Nat)≠0;decide
   ·assumption
  have e:putS s w=closeV (doAll (([]:List P2).flatMap pv) (openW 48 (failW 9 w))):=by
   unfold putS
   rw [if_neg hr]
   show _=closeV (openW 48 (failW 9 w))
   rw [← do_w1,← do_w2,doW_bad8 hk,doW_bad8 hk]
  rw [e]
  exact h
def r00:R8:=⟨[],[],0⟩
theorem inv_00:Inv8 0 r00 w00:=inv_zero
end
section
variable {gs:List Nat} [OkG gs] [OkT gs]
open Go.RowKit Cal

set_option maxHeartbeats 2000000 in
theorem rowP_ac {gs:List Nat} [Ok9 gs] {f:FuncId} (hc:calleeB Tryz.prog f=true) (n:Nat) (l:List (List UInt8)) (k:Nat) (tag most:Int) {sp:StepR P2} (ok:StepOk sp) (hl:0<l.length∧l.length≤100000) (hb:sumL l≤100000) (hf:∀ l k,0<l.length∧l.length≤200000→sumL l≤100000→moreM l k=true→AC gs Tryz.prog f [rdO n l k] [.op 0 (some n) 0] (fun r H'=>r=partV (sp l k).2∧H'=[rdO n (sp l k).1.1 (sp l k).1.2])) :
  AC gs Tryz.prog 188 [rdO n l k] [.op 0 (some n) 0,.c (.int .i64 tag),.c (.int .i64 most),.fn f 0 fun _=>.top]
   (fun r H'=>r=partsC (if (endG sp (enterL tag l k) (enterR tag l k).k most).2=0 then (stG sp (enterL tag l k) (enterR tag l k).k (jG sp (enterL tag l k) (enterR tag l k).k most)).2 else [])∧H'=[rdO n (endG sp (enterL tag l k) (enterR tag l k).k most).1 (endG sp (enterL tag l k) (enterR tag l k).k most).2]):=by
 have he:=enter_mu (t:=tag) (l:=l) (k:=k) hl.1
 have hle:l.length≤(enterL tag l k).length∧(enterL tag l k).length≤l.length+1:=by
  by_cases h:(enterR tag l k).k=0
  ·have:=he.2.2.2.1 h;omega
  ·have:=he.2.2.2.2.1 h;omega
 have hsm:muS (enterL tag l k) (enterR tag l k).k≤100001:=by
  have h0:muS l k≤100001:=by unfold muS;split <;> omega
  exact Nat.le_trans he.2.1 h0
 have hse:sumL (enterL tag l k)≤100000:=by
  have h1:=he.2.1
  have h2:=he.2.2.1
  have h3:=he.1
  by_cases hk:k=0
  ·have h4:=h2 hk
   unfold muS at h4
   rw [if_pos hk] at h4
   split at h4 <;> omega
  ·rw [(h3 hk).1];exact hb
 have hnl:=now_sum l
 generalize hl0:enterL tag l k=l0 at *
 generalize hk0:(enterR tag l k).k=k0 at *
 have hso:=fun j=>stG_out sp l0 k0 j
 have hbd:=stG_bd (sp:=sp) (k0:=k0) (most:=most) ok (show 0<l0.length by omega)
 refine ac_of 36 Tryz.func188 rfl rfl rfl (fun al w0 F0 St0=>?_)
 refine jU 116516516 ?_
 refine jqm (jmcH 0 (enter_ac n l k tag (by omega) (by omega)) ?_)
 rintro _ _ ⟨rfl,rfl⟩
 refine ⟨_,_,rfl,cZ,?_⟩
 refine jU 2075 ?_
 rw [hl0,hk0]
 refine jE (own_nil 9 2 (rowF 2 partE ([],[]) []) rfl) ?_;refine l_loop (α:=Nat×Option Nat) [9,13,14,15,16,17,18,19,20,21,22,23,24,25,26,27] (fun (j,g)=>[(9,.os 1 g 0 (stG sp l0 k0 j).2.length 2)]) (fun (j,g)=>[rdO n (stG sp l0 k0 j).1.1 (stG sp l0 k0 j).1.2,(g,.blk ((stG sp l0 k0 j).2.length * 2) (rowF 2 partE ([],[]) (stG sp l0 k0 j).2))]) (fun p=>∀ i,i<p.1→goB sp l0 k0 most i=true) (fun p=>muS (stG sp l0 k0 p.1).1.1 (stG sp l0 k0 p.1).1.2) ((0,none)) ?_ (fun _=>rfl) ?_ ?_ ?_
 ·exact fun i hi=>absurd hi (Nat.not_lt_zero i)
 ·exact .cons (cO rfl) .nil
 ·exact HEnt.refl _
 ·rintro ⟨j,g⟩ (hj:∀ i,i<j→goB sp l0 k0 most i=true)
  obtain ⟨hmj,hlk,hlo,hhi⟩:=hbd j hj
  have hjl:0<(stG sp l0 k0 j).1.1.length∧(stG sp l0 k0 j).1.1.length≤200000:=by omega
  have hjo:=hso j
  have hjm:j≤100001:=by omega
  refine jU 167 ?_
  refine jqm (jmcH 0 (more_ac n (stG sp l0 k0 j).1.1 (stG sp l0 k0 j).1.2 (by omega)) ?_)
  rintro _ _ ⟨rfl,rfl⟩
  refine ⟨_,_,rfl,cZ,?_⟩
  refine jU 5 ?_;refine jcc (fun h315=>?_) fun h315=>?_
  rotate_left
  ·refine jU 84000200020006000 ?_
   first
    |(have hmt:moreM (stG sp l0 k0 j).1.1 (stG sp l0 k0 j).1.2=true:=by simpa using h315
      have hkz:=(more_pos hmt).1
      rw [if_pos hkz]
      have hstop:jG sp l0 k0 most=j:=jG_one ok (by omega) hj (by unfold goB;rw [hmt,Bool.true_and,decide_eq_false_iff_not];omega)
      have hE:rdO n (leaveL (stG sp l0 k0 j).1.1 3) (leaveK (stG sp l0 k0 j).1.1 3)=rdO n (endG sp l0 k0 most).1 (endG sp l0 k0 most).2:=by
       unfold endG
       rw [hstop]
       dsimp only
       rw [if_pos hmt])
    |(have hmf:moreM (stG sp l0 k0 j).1.1 (stG sp l0 k0 j).1.2=false:=by simpa using h315
      have hstop:jG sp l0 k0 most=j:=jG_one ok (by omega) hj (by unfold goB;rw [hmf];rfl)
      have hE:rdO n (leaveL (stG sp l0 k0 j).1.1 (stG sp l0 k0 j).1.2) (leaveK (stG sp l0 k0 j).1.1 (stG sp l0 k0 j).1.2)=rdO n (endG sp l0 k0 most).1 (endG sp l0 k0 most).2:=by
       unfold endG
       rw [hstop]
       dsimp only
       rw [if_neg (by rw [hmf];simp)])
   refine jU 16 ?_
   refine jqm (jmcH 0 (leave_ac n (stG sp l0 k0 j).1.1 _ (by omega)) ?_)
   rintro _ _ ⟨rfl,rfl⟩
   refine ⟨_,_,rfl,cZ,?_⟩
   refine jU 75 ?_
   dsimp only
   rw [hE,hstop]
   refine code_openR 0 rfl fun gl=>?_;refine jU 5500000501004016 ?_;refine jcc (fun h323=>?_) fun h323=>?_
   ·refine jE (closeR n (endG sp l0 k0 most).2 (endG sp l0 k0 most).1 0 2 rfl rfl rfl (cO rfl) cZ (Nat.le_refl _) (fun _ _=>cZ)) ?_;refine jU 30007000516 ?_
    exact end_ownV (.inl rfl) [0] (by decide) rfl (res_1 rfl (arv_tmp rfl)) (m:=partsC []) (CEnt.nilS' rfl) ⟨by rw [if_neg (by omega)],rfl⟩
   refine jU 810 ?_;refine jE (closeR n (endG sp l0 k0 most).2 (endG sp l0 k0 most).1 0 2 rfl rfl rfl (cO rfl) cZ (Nat.le_refl _) (fun _ _=>cZ)) ?_;refine jU 5116 ?_;refine jE (freeze 1 rfl) ?_;refine jE (thaw 8 (fun a b=>partE ((stG sp l0 k0 j).2.getD a ([],[])) b) rfl rfl (by omega) (fun a b ha hb=>CEnt.of_eq (by rw [Nat.zero_add,rowF_at hb]))) ?_;refine jU 7000 ?_
   exact end_ownV (.inl rfl) [0] (by decide) rfl (res_1 rfl (arv_tmp rfl)) (m:=partsC (stG sp l0 k0 j).2) cZ ⟨by rw [if_pos (by omega)],rfl⟩
  refine jU 521316720810 ?_;refine jcc (fun h316=>?_) fun h316=>?_
  rotate_left
  ·refine jU 810 ?_
   have hmt0:moreM (stG sp l0 k0 j).1.1 (stG sp l0 k0 j).1.2=true:=by simpa using h315
   have hgo:goB sp l0 k0 most j=true:=by unfold goB;rw [hmt0,Bool.true_and,decide_eq_true_eq];omega
   refine jU 111200 ?_
   refine jqm (m_callHV1 (i:=0) rfl rfl (by assumption) rfl (hf (stG sp l0 k0 j).1.1 (stG sp l0 k0 j).1.2 hjl (by have h1:muS (stG sp l0 k0 j).1.1 (stG sp l0 k0 j).1.2=sumL (stG sp l0 k0 j).1.1+1:=(by unfold muS;rw [if_pos (more_pos hmt0).1]);omega) hmt0) (.cons cP .nil) rfl rfl ?_)
   rintro _ _ ⟨rfl,rfl⟩
   refine ⟨_,rfl,?_⟩
   refine jqe (jebl 2 2 zr212 fun p3=>?_)
   refine jqm (m_appendC (rowC_row 2 partE ([],[])) (l2:=[(sp (stG sp l0 k0 j).1.1 (stG sp l0 k0 j).1.2).2]) rfl rfl rfl rfl (by exact Nat.le_refl _) (fun _ _=>cZ) (src_os rfl (.inl rfl) (by decide)) rfl (fun j hj=>by rcases j with _|_|j <;> first|exact cZ|(exfalso;simp at hj <;> omega)) Tryz.underlying210 nu210 sz212 zr212 by212 rfl (by (simp;omega)) (by (simp;omega)) (leaf_flk rfl rfl) rfl rfl rfl (fun p4=>?_))
   refine jU 840051 ?_
   refine jlend ((j+1,p4)) ?_ ?_ (h5:=?_) (h7:=?_)
   ·exact fun i hi=>if h:i<j then hj i h else (by obtain rfl:i=j:=(by have hi:i<j+1:=hi;omega);exact hgo)
   ·exact ok.mu _ _ (by omega) (by unfold goB at hgo;rw [Bool.and_eq_true] at hgo;exact hgo.1)
   ·exact .cons (cO rfl) .nil
   ·exact HEnt.refl _
  refine jU 16 ?_;refine jq (jrde 2) ?_
  refine jqm (jmcH 0 (fail08_ac n (stG sp l0 k0 j).1.1 (stG sp l0 k0 j).1.2 3) ?_)
  rintro _ _ ⟨rfl,rfl⟩
  refine ⟨_,_,rfl,cZ,?_⟩
  refine jU 84000200080000200060005 ?_
  first
   |(have hmt:moreM (stG sp l0 k0 j).1.1 (stG sp l0 k0 j).1.2=true:=by simpa using h315
     have hkz:=(more_pos hmt).1
     rw [if_pos hkz]
     have hstop:jG sp l0 k0 most=j:=jG_one ok (by omega) hj (by unfold goB;rw [hmt,Bool.true_and,decide_eq_false_iff_not];omega)
     have hE:rdO n (leaveL (stG sp l0 k0 j).1.1 3) (leaveK (stG sp l0 k0 j).1.1 3)=rdO n (endG sp l0 k0 most).1 (endG sp l0 k0 most).2:=by
      unfold endG
      rw [hstop]
      dsimp only
      rw [if_pos hmt])
   |(have hmf:moreM (stG sp l0 k0 j).1.1 (stG sp l0 k0 j).1.2=false:=by simpa using h315
     have hstop:jG sp l0 k0 most=j:=jG_one ok (by omega) hj (by unfold goB;rw [hmf];rfl)
     have hE:rdO n (leaveL (stG sp l0 k0 j).1.1 (stG sp l0 k0 j).1.2) (leaveK (stG sp l0 k0 j).1.1 (stG sp l0 k0 j).1.2)=rdO n (endG sp l0 k0 most).1 (endG sp l0 k0 most).2:=by
      unfold endG
      rw [hstop]
      dsimp only
      rw [if_neg (by rw [hmf];simp)])
  refine jU 16 ?_
  refine jqm (jmcH 0 (leave_ac n (stG sp l0 k0 j).1.1 _ (by omega)) ?_)
  rintro _ _ ⟨rfl,rfl⟩
  refine ⟨_,_,rfl,cZ,?_⟩
  refine jU 75 ?_
  dsimp only
  rw [hE,hstop]
  refine code_openR 0 rfl fun gl=>?_;refine jU 5500000501004016 ?_;refine jcc (fun h323=>?_) fun h323=>?_
  ·refine jE (closeR n (endG sp l0 k0 most).2 (endG sp l0 k0 most).1 0 2 rfl rfl rfl (cO rfl) cZ (Nat.le_refl _) (fun _ _=>cZ)) ?_;refine jU 30007000516 ?_
   exact end_ownV (.inl rfl) [0] (by decide) rfl (res_1 rfl (arv_tmp rfl)) (m:=partsC []) (CEnt.nilS' rfl) ⟨by rw [if_neg (by omega)],rfl⟩
  refine jU 810 ?_;refine jE (closeR n (endG sp l0 k0 most).2 (endG sp l0 k0 most).1 0 2 rfl rfl rfl (cO rfl) cZ (Nat.le_refl _) (fun _ _=>cZ)) ?_;refine jU 5116 ?_;refine jE (freeze 1 rfl) ?_;refine jE (thaw 8 (fun a b=>partE ((stG sp l0 k0 j).2.getD a ([],[])) b) rfl rfl (by omega) (fun a b ha hb=>CEnt.of_eq (by rw [Nat.zero_add,rowF_at hb]))) ?_;refine jU 7000 ?_
  exact end_ownV (.inl rfl) [0] (by decide) rfl (res_1 rfl (arv_tmp rfl)) (m:=partsC (stG sp l0 k0 j).2) cZ ⟨by rw [if_pos (by omega)],rfl⟩
theorem oidR_ac {gs:List Nat} [Ok9 gs] (n:Nat) (l:List (List UInt8)) (k:Nat) (hl:0<l.length∧l.length≤1000000) (hb:(nowL l).length≤10000000):AC gs Tryz.prog 231 [rdO n l k] [.op 0 (some n) 0] (fun r H'=>r=strC (readR aO l k).v.t∧H'=[rdO n (readR aO l k).l (readR aO l k).k]):=by
 have h:=oid08_ac (gs:=gs) n l k hl hb
 rw [readR_g vT [] rfl (t:=6) (f:=ogetM) (by decide) (by decide) (by decide) (by funext b;rfl) rfl]
 exact h
theorem textR_ac {gs:List Nat} [Ok9 gs] [OkT gs] (n:Nat) (l:List (List UInt8)) (k:Nat) (hl:0<l.length∧l.length≤1000000) (hb:(nowL l).length≤10000000):AC gs Tryz.prog 121 [rdO n l k] [.op 0 (some n) 0,.c (.int .i64 64)] (fun r H'=>r=strC (readR aT l k).v.t∧H'=[rdO n (readR aT l k).l (readR aT l k).k]):=by
 have h:=text08_ac (gs:=gs) n l k 64 hl hb
 rw [readR_g vT [] rfl (t:=12) (f:=fun b=>(if askedM b 64=0 then b else [],askedM b 64)) (by decide) (by decide) (by decide) (by funext b;rfl) rfl]
 exact h
theorem mu_sum {l:List (List UInt8)} {k B:Nat} (h:muS l k≤B):sumL l≤B:=by unfold muS at h;omega
theorem read_bd (a:AA) {l:List (List UInt8)} {k m B:Nat} (hl:0<l.length∧l.length≤m) (hb:muS l k≤B) (h2:a.kind≠2):(0<(readR a l k).l.length∧(readR a l k).l.length≤m+1)∧muS (readR a l k).l (readR a l k).k≤B:=by
 obtain ⟨a1,a2,a3,a4,a5,a6,a7⟩:=read_mu a (l:=l) (k:=k) hl.1
 refine ⟨?_,by omega⟩
 by_cases h1:a.kind=1
 ·obtain ⟨a41,a42⟩:=a4 h1
  by_cases h:(readR a l k).k=0
  ·have:=a41 h;omega
  ·have:=a42 h;omega
 ·have:=a6 h1 h2;omega
theorem now_le {l:List (List UInt8)} {k B:Nat} (h:muS l k≤B):(nowL l).length≤B:=Nat.le_trans (now_sum l) (mu_sum h)
theorem npart_ac {gs:List Nat} [Ok9 gs] [OkT gs] (n:Nat) (l:List (List UInt8)) (k:Nat) (hl:0<l.length∧l.length≤200000) (hb:sumL l≤100000):AC gs Tryz.prog 189 [rdO n l k] [.op 0 (some n) 0] (fun r H'=>r=partV (partSp l k).2∧H'=[rdO n (partSp l k).1.1 (partSp l k).1.2]):=by
 have m0:muS l k≤100001:=by unfold muS;split <;> omega
 obtain ⟨f1,f2⟩:=read_enter aL rfl l k
 obtain ⟨l1,m1⟩:=read_bd aL hl m0 (by decide)
 obtain ⟨l2,m2⟩:=read_bd aO l1 m1 (by decide)
 obtain ⟨l3,m3⟩:=read_bd aT l2 m2 (by decide)
 obtain ⟨f3,f4⟩:=read_leave aE rfl (readR aT (readR aO (readR aL l k).l (readR aL l k).k).l (readR aO (readR aL l k).l (readR aL l k).k).k).l (readR aT (readR aO (readR aL l k).l (readR aL l k).k).l (readR aO (readR aL l k).l (readR aL l k).k).k).k
 have n0:=now_le m0
 have n1:=now_le m1
 have n2:=now_le m2
 have n3:=now_le m3
 have hE:AC gs Tryz.prog 64 [rdO n l k] [.op 0 (some n) 0,.c (.int .i64 48)] (fun r H'=>r=.c (.bool (enterR 48 l k).is)∧H'=[rdO n (readR aL l k).l (readR aL l k).k]):=by
  rw [f1,f2]
  exact enter_ac n l k 48 (by omega) (by omega)
 have hL:=leave_ac (gs:=gs) n (readR aT (readR aO (readR aL l k).l (readR aL l k).k).l (readR aO (readR aL l k).l (readR aL l k).k).k).l (readR aT (readR aO (readR aL l k).l (readR aL l k).k).l (readR aO (readR aL l k).l (readR aL l k).k).k).k (by omega)
 rw [← f3,← f4] at hL
 refine ac_of 14 Tryz.func189 rfl rfl rfl (fun al w0 F0 St0=>?_)
 refine jcr ?_
 refine jqe (jeal (n:=2) zr212 rfl fun p1=>?_)
 refine jU 165 ?_
 refine jqm (jmcH 0 hE ?_)
 rintro _ _ ⟨rfl,rfl⟩
 refine ⟨_,_,rfl,cZ,?_⟩
 refine jU 165 ?_
 refine jqm (jmcH 0 (oidR_ac n (readR aL l k).l (readR aL l k).k (by omega) (by omega)) ?_)
 rintro _ _ ⟨rfl,rfl⟩
 refine ⟨_,_,rfl,cZ,?_⟩
 refine jU 1 ?_
 refine jqm (jmcH 0 (textR_ac n (readR aO (readR aL l k).l (readR aL l k).k).l (readR aO (readR aL l k).l (readR aL l k).k).k (by omega) (by omega)) ?_)
 rintro _ _ ⟨rfl,rfl⟩
 refine ⟨_,_,rfl,cZ,?_⟩
 refine jq (rd_build (n:=2) rfl zr212 pl212 rfl rfl) ?_
 refine jqe (jeal (n:=2) zr212 rfl fun p5=>?_)
 refine jqm (jmst 2 ?_)
 refine jU 165 ?_
 refine jqm (jmcH 0 hL ?_)
 rintro _ _ ⟨rfl,rfl⟩
 refine ⟨_,_,rfl,cZ,?_⟩
 refine jU 65 ?_;refine jqo (jrdoA 2) ?_
 refine jqm (jmst 2 ?_)
 refine jU 70005 ?_
 exact end_H (.inl rfl) rfl (res_1 rfl (javA 2)) (CEnt.agg rfl (fun j hj=>by rcases j with _|_|j <;> first|exact cZ|omega))
set_option maxHeartbeats 1000000 in
theorem nget_ac (n:Nat) (l:List (List UInt8)) (k:Nat) (hl:0<l.length∧l.length≤100000) (hb:sumL l≤100000):AC gs Tryz.prog 116 [rdO n l k] [.op 0 (some n) 0] (fun r H'=>r=subjC (getS l k).2∧H'=[rdO n (getS l k).1.1 (getS l k).1.2]):=by
 have hR:=rowP_ac (gs:=gs) (f:=189) (by kernel_rfl) n l k 48 8 part_ok hl hb (fun l k h1 h2 _=>npart_ac n l k h1 h2)
 have hlen:(listP l k).length≤1000000:=by
  have h1:=jG_stop (sp:=partSp) (l0:=enterL 48 l k) (k0:=(enterR 48 l k).k) (most:=8) part_ok (by
   obtain ⟨_,_,_,e4,e5,_⟩:=enter_mu (t:=48) (l:=l) (k:=k) hl.1
   by_cases h0:(enterR 48 l k).k=0
   ·rw [e4 h0];omega
   ·rw [e5 h0];omega)
  have h2:=stG_out partSp (enterL 48 l k) (enterR 48 l k).k (jG partSp (enterL 48 l k) (enterR 48 l k).k 8)
  have h3:(listP l k).length=jG partSp (enterL 48 l k) (enterR 48 l k).k 8:=h2
  rw [h3]
  rcases Nat.eq_zero_or_pos (jG partSp (enterL 48 l k) (enterR 48 l k).k 8) with hz|hz
  ·omega
  ·have hg:=h1.1 (jG partSp (enterL 48 l k) (enterR 48 l k).k 8-1) (by omega)
   unfold goB at hg
   rw [Bool.and_eq_true,decide_eq_true_eq] at hg
   omega
 have hR':AC gs Tryz.prog 188 [rdO n l k] [.op 0 (some n) 0,.c (.int .i64 48),.c (.int .i64 8),.fn 189 0 fun _=>.top] (fun r H'=>r=partsC (if (endP l k).2=0 then listP l k else [])∧H'=[rdO n (endP l k).1 (endP l k).2]):=hR
 have hO:=nof_ac (gs:=gs) (listP l k) hlen
 refine ac_of 21 Tryz.func116 rfl rfl rfl (fun al w0 F0 St0=>?_)
 refine jcr ?_
 refine jqe (jeal (n:=3) zr36 rfl fun p1=>?_)
 refine jU 165 ?_
 refine jqm (jmcH 0 (hR') ?_ (ho:=rfl) (he:=(.cons (se rfl cP) (.cons (se rfl cZ) (.cons (se rfl cZ) (.cons (se rfl CEnt.fn0) .nil))))))
 rintro _ _ ⟨rfl,rfl⟩
 refine ⟨_,_,rfl,cZ,?_⟩
 refine jU 16751 ?_
 refine jqm (jmcH 0 (err08_ac n (endP l k).1 (endP l k).2) ?_)
 rintro _ _ ⟨rfl,rfl⟩
 refine ⟨_,_,rfl,cZ,?_⟩
 refine jU 5500000 ?_;refine jcc (fun h117=>?_) fun h117=>?_
 ·refine jcr ?_;refine jq (rd_build (n:=3) rfl zr36 pl36 rfl rfl) ?_
  refine jqm (jmst 3 ?_)
  refine jU 300070005 ?_
  rw [show getS l k=(endP l k,zeroS) by unfold getS;rw [if_pos (by omega)]]
  exact end_H (.inl rfl) rfl (res_1 rfl (javA 3)) (CEnt.agg rfl (fun j hj=>by rcases j with _|_|_|j <;> first|exact cZ|omega))
 refine jU 810 ?_
 have hz:(endP l k).2=0:=by omega
 rw [if_pos hz]
 refine jU 16 ?_
 refine jqe (jecP hO ?_)
 refine jU 9009001 ?_
 refine jqe (jeal (n:=3) zr36 rfl fun p4=>?_)
 refine jqm (jmst 3 ?_)
 refine jU 11651 ?_
 refine jqm (jmcH 0 (fail08_ac n (endP l k).1 (endP l k).2 (ofP (listP l k)).2) ?_)
 rintro _ _ ⟨rfl,rfl⟩
 refine ⟨_,_,rfl,cZ,?_⟩
 refine jU 65 ?_;refine jqo (jrdoA 3) ?_
 refine jqm (jmst 3 ?_)
 refine jU 70005 ?_
 rw [if_pos hz,show getS l k=(((endP l k).1,(ofP (listP l k)).2),(ofP (listP l k)).1) by unfold getS;rw [if_neg (by omega)]]
 exact end_H (.inl rfl) rfl (res_1 rfl (javA 3)) (CEnt.agg rfl (fun j hj=>by rcases j with _|_|_|j <;> first|exact cZ|omega))
end
section
open Go.RowKit Cal
structure Fd where
 call:Int
 least:Int
 most:Int
structure V4 where
 n:Int
 t:List UInt8
 b:List UInt8
 who:S3
def V4.z:V4:=⟨0,[],[],zeroS⟩
def OkF (f:Fd):Prop:=f.call=0∨((f.call=3∨f.call=4)∧-9223372036854775808≤f.least∧f.most≤9223372036854775807)∨(f.call=6∧0≤f.least∧f.most≤4096)∨(f.call=7∧f.most=24)∨f.call=9
def GoodF (f:Fd) (v:V4):Prop:=(f.call=0∧v=⟨0,[],[],v.who⟩∧rightS v.who=true)∨((f.call=3∨f.call=4)∧v=⟨v.n,[],[],zeroS⟩∧f.least≤v.n∧v.n≤f.most) ∨
 (f.call=6∧v=⟨0,[],v.b,zeroS⟩∧f.least≤(v.b.length:Nat)∧(v.b.length:Nat)≤f.most)∨(f.call=7∧v=⟨0,v.t,[],zeroS⟩∧askedM v.t 24=0)∨(f.call=9∧v=⟨v.n,[],[],zeroS⟩∧inT v.n)
def fdV (f:Fd) (v:V4):VV:=if f.call=7 then ⟨7,24,false,[],v.t⟩ else ⟨f.call,v.n,false,v.b,[]⟩
def fdX (f:Fd) (v:V4):Int×List UInt8:=if f.call=0 then subX v.who else ((bodyV (fdV f v)).1,(bodyV (fdV f v)).2.1)
def encF (f:Fd) (v:V4):List UInt8:=elB (fdX f v)
def putFd (f:Fd) (v:V4) (w:W8):W8:=if f.call=0 then putS v.who w else doW (fdV f v) w
def rputFd (f:Fd) (v:V4) (r:R8):R8:=if f.call=0 then rputS9 v.who r else rdoS (fdV f v) r
def fdA (f:Fd):AA:=⟨f.call,0,f.least,f.most⟩
def readF (f:Fd):StepR V4:=fun l k=>if f.call=0 then ((getS l k).1,⟨0,[],[],(getS l k).2⟩) else (((readR (fdA f) l k).l,(readR (fdA f) l k).k),⟨(readR (fdA f) l k).v.n,(readR (fdA f) l k).v.t,(readR (fdA f) l k).v.b,zeroS⟩)
theorem fd_body {f:Fd} {v:V4} (ho:OkF f) (h:GoodF f v) (h0:f.call≠0):(3≤f.call∧f.call≤10)∧(fdV f v).kind=f.call∧(bodyV (fdV f v)).1=tagA (fdA f)∧(bodyV (fdV f v)).2.2=0∧(bodyV (fdV f v)).2.1.length≤4096∧saidM (fdA f) (bodyV (fdV f v)).2.1=(⟨0,v.n,false,v.b,v.t⟩,0) ∧
  (-9223372036854775808≤(fdV f v).n∧(fdV f v).n≤9223372036854775807)∧(fdV f v).t.length≤300∧(fdV f v).b.length≤4096∧v.who=zeroS:=by
 obtain ⟨c,least,most⟩:=f
 obtain ⟨n,t,b,who⟩:=v
 unfold OkF GoodF at *
 dsimp only at ho h h0
 rcases h with h|⟨hc,hv,h1,h2⟩|⟨hc,hv,h1,h2⟩|⟨hc,hv,h1⟩|⟨hc,hv,h1⟩
 ·exact absurd h.1 h0
 ·obtain ⟨_,rfl,rfl,rfl⟩:=(V4.mk.injEq _ _ _ _ _ _ _ _).mp hv
  have hb:-9223372036854775808≤n∧n≤9223372036854775807:=by omega
  have hg:=putN_get hb.1 hb.2
  have hl:=(putN_len n hb.1 hb.2).2
  have hr:rangeM (putN n) least most=(n,0):=by
   unfold rangeM
   rw [hg,if_neg (by simp),if_neg (by dsimp only;omega)]
  rcases hc with rfl|rfl
  ·have e:bodyV (fdV ⟨3,least,most⟩ ⟨n,[],[],zeroS⟩)=(2,putN n,0):=rfl
   refine ⟨by constructor <;> (dsimp only;omega),rfl,rfl,rfl,by rw [e];dsimp only;omega,?_,hb,by simp [fdV],by simp [fdV],rfl⟩
   rw [e]
   show (vN (rangeM (putN n) least most).1,(rangeM (putN n) least most).2)=_
   rw [hr];rfl
  ·have e:bodyV (fdV ⟨4,least,most⟩ ⟨n,[],[],zeroS⟩)=(10,putN n,0):=rfl
   refine ⟨by constructor <;> (dsimp only;omega),rfl,rfl,rfl,by rw [e];dsimp only;omega,?_,hb,by simp [fdV],by simp [fdV],rfl⟩
   rw [e]
   show (vN (rangeM (putN n) least most).1,(rangeM (putN n) least most).2)=_
   rw [hr];rfl
 ·obtain ⟨rfl,rfl,_,rfl⟩:=(V4.mk.injEq _ _ _ _ _ _ _ _).mp hv
  subst hc
  have e:bodyV (fdV ⟨6,least,most⟩ ⟨0,[],b,zeroS⟩)=(4,b,0):=rfl
  have hl:b.length≤4096:=by omega
  refine ⟨by constructor <;> (dsimp only;omega),rfl,rfl,rfl,by rw [e];exact hl,?_,by show (-9223372036854775808:Int)≤0∧(0:Int)≤9223372036854775807;decide,by simp [fdV],hl,rfl⟩
  rw [e]
  show (vB (octM least most b).1,(octM least most b).2)=_
  unfold octM
  rw [if_neg (by omega),if_neg (by omega)]
  rfl
 ·obtain ⟨rfl,_,rfl,rfl⟩:=(V4.mk.injEq _ _ _ _ _ _ _ _).mp hv
  subst hc
  have hm:most=24:=by omega
  subst hm
  have hl:=asked_len h1
  have e:bodyV (fdV ⟨7,least,24⟩ ⟨0,t,[],zeroS⟩)=(12,t,0):=by
   show ((12:Int),(if askedM t 24=0 then t else []),askedM t 24)=_
   rw [h1,if_pos rfl]
  refine ⟨by constructor <;> (dsimp only;omega),rfl,by rw [e];rfl,by rw [e],by rw [e];dsimp only;omega,?_,by show (-9223372036854775808:Int)≤24∧(24:Int)≤9223372036854775807;decide,by show t.length≤300;omega,by simp [fdV],rfl⟩
  rw [e]
  show (vT (if askedM t 24=0 then t else []),askedM t 24)=_
  rw [h1,if_pos rfl];rfl
 ·obtain ⟨_,rfl,rfl,rfl⟩:=(V4.mk.injEq _ _ _ _ _ _ _ _).mp hv
  subst hc
  have ho6:ofM n=ofR6 n:=by unfold ofM;rw [if_pos h1]
  have hq:=ofR_right h1
  have e:bodyV (fdV ⟨9,least,most⟩ ⟨n,[],[],zeroS⟩)=(24,bodyL (ofM n),0):=by
   show ((24:Int),(if inT n then bodyL (ofM n) else []),ofE n)=_
   unfold ofE
   rw [if_pos h1,if_pos h1]
  refine ⟨by constructor <;> (dsimp only;omega),rfl,by rw [e];rfl,by rw [e],by rw [e];exact Nat.le_of_ble_eq_true rfl,?_,by have h1':=h1;unfold inT at h1';show _≤n∧n≤_;omega,by simp [fdV],by simp [fdV],rfl⟩
  rw [e]
  show (vN (getV (bodyL (ofM n))),getE (bodyL (ofM n)))=_
  rw [ho6,(get_body hq.1).1,(get_body hq.1).2,hq.2];rfl
theorem encF_tag {f:Fd} {v:V4} (ho:OkF f) (h:GoodF f v) (h0:f.call≠0):encF f v=putL (tagA (fdA f)) (bodyV (fdV f v)).2.1:=by
 unfold encF fdX elB
 rw [if_neg h0]
 dsimp only
 rw [(fd_body ho h h0).2.2.1]
theorem encF_sub {f:Fd} {v:V4} (h0:f.call=0):encF f v=subB v.who:=by
 unfold encF fdX
 rw [if_pos h0];rfl
theorem good_sub {f:Fd} {v:V4} (h:GoodF f v) (h0:f.call=0):v=⟨0,[],[],v.who⟩∧rightS v.who=true:=by
 unfold GoodF at h
 rcases h with h|h|h|h|h
 ·exact h.2
 all_goals (exfalso;omega)
theorem field_fwd {f:Fd} {v:V4} (ho:OkF f) (h:GoodF f v) (ls:List (List UInt8)) (r:List UInt8):readF f (ls++[encF f v++r]) 0=((ls++[r],0),v):=by
 unfold readF
 by_cases h0:f.call=0
 ·obtain ⟨h1,h2⟩:=good_sub h h0
  rw [if_pos h0,encF_sub h0,getS_fwd h2]
  dsimp only
  rw [← h1]
 ·obtain ⟨b1,b2,b3,b4,b5,b6,b7,b8,b9,b10⟩:=fd_body ho h h0
  have hr:=read_fwd (fdA f) ls (b:=(bodyV (fdV f v)).2.1) r b1 (by omega) (by rw [b6])
  rw [if_neg h0,encF_tag ho h h0,hr,b6]
  obtain ⟨n,t,b,who⟩:=v
  dsimp only at b10 ⊢
  rw [b10]
theorem encF_bd {f:Fd} {v:V4} (ho:OkF f) (h:GoodF f v):(encF f v).length≤4110∧0<(encF f v).length∧Lev 3 (fdX f v):=by
 refine ⟨?_,elB_pos _,?_⟩
 ·by_cases h0:f.call=0
  ·rw [encF_sub h0]
   have:=(sub_len (good_sub h h0).2).2
   omega
  ·rw [encF_tag ho h h0]
   have h1:=putL_len (tagA (fdA f)) (bodyV (fdV f v)).2.1
   have h2:=(fd_body ho h h0).2.2.2.2.1
   omega
 ·by_cases h0:f.call=0
  ·have h2:=(good_sub h h0).2
   obtain ⟨g1,g2⟩:=good_parts h2
   obtain ⟨l1,l2⟩:=sub_len h2
   unfold fdX
   rw [if_pos h0]
   refine lev_made (d:=2) (by decide) (by decide) (by decide) (fun x hx=>?_) (by omega)
   obtain ⟨p,hp,rfl⟩:=List.mem_map.1 hx
   obtain ⟨h3,h4,h5⟩:=g1 p hp
   obtain ⟨m1,m2,m3⟩:=part9_len h3 (by omega)
   refine lev_made (d:=1) (by decide) (by decide) (by decide) (fun x hx=>?_) (by omega)
   simp only [innerX,List.mem_cons,List.not_mem_nil,or_false] at hx
   rcases hx with rfl|rfl
   ·exact lev_plain (by decide) (by decide) (by omega)
   ·exact lev_plain (by decide) (by decide) (by omega)
  ·obtain ⟨b1,b2,b3,b4,b5,_⟩:=fd_body ho h h0
   have ht:=tagV (v:=fdV f v) (by rw [b2];exact b1)
   unfold fdX
   rw [if_neg h0]
   exact (lev_plain ht.1 ht.2.1 (by omega)).mono (by decide)
def readFs:List Fd→StepR (List V4)
 | [],l,k=>((l,k),[])
 | f::fs,l,k=>((readFs fs (readF f l k).1.1 (readF f l k).1.2).1,(readF f l k).2::(readFs fs (readF f l k).1.1 (readF f l k).1.2).2)
def encFs:List Fd→List V4→List UInt8
 | f::fs,v::vs=>encF f v++encFs fs vs
 | _,_=>[]
def GoodFs:List Fd→List V4→Prop
 | [],[]=>True
 | f::fs,v::vs=>GoodF f v∧GoodFs fs vs
 | _,_=>False
def putFds:List Fd→List V4→W8→W8
 | f::fs,v::vs,w=>putFds fs vs (putFd f v w)
 | _,_,w=>w
def rputFds:List Fd→List V4→R8→R8
 | f::fs,v::vs,r=>rputFds fs vs (rputFd f v r)
 | _,_,r=>r
theorem putFd_ok {f:Fd} {v:V4} (ho:OkF f) (h:GoodF f v) {w:W8} (hk:w.k=0) (hf:w.fr.length<15):putFd f v w=addW (encF f v) w:=by
 unfold putFd
 by_cases h0:f.call=0
 ·rw [if_pos h0,encF_sub h0,putS_ok (good_sub h h0).2 hk hf]
 ·obtain ⟨b1,b2,b3,b4,b5,_⟩:=fd_body ho h h0
  have ht:=tagV (v:=fdV f v) (by rw [b2];exact b1)
  rw [if_neg h0,encF_tag ho h h0,doW_put (by rw [b2];exact b1),b4,put_ok hk ht.1 (by omega),b3]
theorem inv_putFd {f:Fd} {v:V4} (ho:OkF f) (h:GoodF f v) {i:Nat} {r:R8} {w:W8} (hI:Inv8 i r w):Inv8 (i+14) (rputFd f v r) (putFd f v w):=by
 unfold rputFd putFd
 by_cases h0:f.call=0
 ·rw [if_pos h0,if_pos h0]
  exact inv_putS hI v.who
 ·obtain ⟨b1,b2,b3,b4,b5,b6,b7,b8,b9,b10⟩:=fd_body ho h h0
  rw [if_neg h0,if_neg h0]
  exact inv_doU hI b7 b8 (by rw [b2];exact b1) (by decide) (by omega)
end
section
def hexL:List UInt8:=[48,49,50,51,52,53,54,55,56,57,97,98,99,100,101,102]
def hexOk (l:List UInt8):Bool:=decide (l.length=32) && l.all fun c=>decide (0≤Lib.indexByte hexL c)
theorem hex_bad {l:List UInt8} {i:Nat} (hi:i<l.length) (h:Lib.indexByte hexL (l.getD i 0)<0):hexOk l=false:=by
 cases e:hexOk l with
 | false=>rfl
 | true =>
  simp only [hexOk,Bool.and_eq_true,List.all_eq_true,decide_eq_true_eq] at e
  have:=e.2 (l.getD i 0) (by simp [List.getD,hi])
  omega
theorem hexB_bd (c:UInt8):Lib.indexByte hexL c<16:=by
 unfold Lib.indexByte hexL
 simp only [Lib.indexByte]
 repeat (first|omega|split)
def shl4 (c:UInt8):Int:=IntKind.u8.wrap (((c.toNat:Nat):Int) * 2 ^ (4:Int).toNat)
def orB (a b:Int):Int:=IntKind.u8.wrap (BitVec.ofInt (IntKind.bits .u8) a ||| BitVec.ofInt (IntKind.bits .u8) b).toNat
def mixB (c:UInt8) (n:Int):UInt8:=UInt8.ofNat (orB (shl4 c) n).toNat
theorem mixB_int (c:UInt8) (n:Int):orB (shl4 c) n=((mixB c n).toNat:Nat):=by
 have h:0≤orB (shl4 c) n∧orB (shl4 c) n<256:=by unfold orB;rw [IntKind.wrap_u8];omega
 unfold mixB
 rw [UInt8.toNat_ofNat']
 omega
theorem zero_cell (j:Nat):(Value.int .u8 0).cells[j % (Value.int .u8 0).cells.size]! = .int .u8 0:=by
 have:j % (Value.int .u8 0).cells.size=0:=Nat.mod_one j
 rw [this];rfl
theorem zero16 (j:Nat):CEnt (.c (.int .u8 0)) (byF (List.replicate 16 0) j):=CEnt.of_eq (by
 have:(List.replicate 16 (0:UInt8)).getD j 0=0:=by rw [List.getD_eq_getElem?_getD,List.getElem?_replicate];split <;> rfl
 unfold byF
 rw [this];rfl)
theorem upd_byte {X:List UInt8} {o:Nat} {c:UInt8} {z:Int} (hz:z=(c.toNat:Nat)) (ho:o<X.length) (j:Nat):CEnt (updF (byF X) o (List.map CV.c (Value.int .u8 z).cells.toList) j) (byF (X.set o c) j):=by
 rw [updF_get,show (List.map CV.c (Value.int .u8 z).cells.toList).length=1 from rfl]
 by_cases e:j=o
 ·subst e
  rw [if_pos (by omega),Nat.sub_self]
  have:(X.set j c).getD j 0=c:=by simp [List.getD,ho]
  unfold byF
  rw [this,← hz]
  exact cZ
 ·rw [if_neg (by omega)]
  refine CEnt.of_eq ?_
  unfold byF
  simp [List.getD,Ne.symm e]
def hx (n:Nat):UInt8:=if n<10 then UInt8.ofNat (48+n) else UInt8.ofNat (87+n)
def hv (c:UInt8):Nat:=(Lib.indexByte hexL c).toNat
def isHx (c:UInt8):Bool:=decide (0≤Lib.indexByte hexL c)
theorem hv_all:∀ n:Fin 256,isHx (UInt8.ofNat n.val)=true→hv (UInt8.ofNat n.val)<16∧hx (hv (UInt8.ofNat n.val))=UInt8.ofNat n.val:=by decide +kernel
theorem hv_hx {c:UInt8} (h:isHx c=true):hv c<16∧hx (hv c)=c:=by
 have h2:=hv_all ⟨c.toNat,c.toNat_lt⟩
 have e:UInt8.ofNat (⟨c.toNat,c.toNat_lt⟩:Fin 256).val=c:=UInt8.ofNat_toNat
 rw [e] at h2
 exact h2 h
def hx2 (c:UInt8):List UInt8:=[hx (c.toNat / 16),hx (c.toNat % 16)]
def flatX (b:List UInt8):List UInt8:=(b.map hx2).flatten
def hexE (b:List UInt8):List UInt8:=if b=[] then [46] else flatX b
theorem flatX_len (b:List UInt8):(flatX b).length=2 * b.length:=by
 induction b with
 | nil=>rfl
 | cons c b ih=>show (hx2 c++flatX b).length=_;rw [List.length_append,ih];simp [hx2];omega
theorem flatX_snoc (b:List UInt8) (c:UInt8):flatX (b++[c])=flatX b++[hx (c.toNat / 16),hx (c.toNat % 16)]:=by
 simp [flatX,hx2]
def bx (a b:UInt8):UInt8:=UInt8.ofNat (16 * hv a+hv b)
def hexB:List UInt8→List UInt8
 | a::b::r=>bx a b::hexB r
 | _=>[]
theorem hexB_len:∀ s:List UInt8,(hexB s).length=s.length / 2
 | []=>rfl
 | [_]=>by simp [hexB]
 | a::b::r=>by
  show (hexB r).length+1=_
  rw [hexB_len r]
  simp only [List.length_cons]
  omega
theorem hexB_get:∀ (s:List UInt8) (j:Nat),j<s.length / 2→(hexB s).getD j 0=bx (s.getD (2 * j) 0) (s.getD (2 * j+1) 0)
 | [],j,h=>absurd h (Nat.not_lt_zero j)
 | [_],j,h=>by simp at h
 | a::b::r,0,h=>rfl
 | a::b::r,j+1,h=>by
  show (hexB r).getD j 0=_
  rw [hexB_get r j (by simp only [List.length_cons] at h;omega)]
  have e1:2 * (j+1)=2 * j+1+1:=by omega
  rw [e1]
  rfl
theorem flat_hexB:∀ s:List UInt8,s.length % 2=0→s.all isHx=true→flatX (hexB s)=s
 | [],_,_=>rfl
 | [_],h,_=>by simp at h
 | a::b::r,h,h2=>by
  simp only [List.all_cons,Bool.and_eq_true] at h2
  obtain ⟨ha,hb,hr⟩:=h2
  obtain ⟨a1,a2⟩:=hv_hx ha
  obtain ⟨b1,b2⟩:=hv_hx hb
  show hx2 (bx a b)++flatX (hexB r)=_
  rw [flat_hexB r (by simp only [List.length_cons] at h;omega) hr]
  unfold hx2 bx
  rw [UInt8.toNat_ofNat',show (16 * hv a+hv b) % 2 ^ 8 / 16=hv a by omega,show (16 * hv a+hv b) % 2 ^ 8 % 16=hv b by omega,a2,b2]
  rfl
theorem set_at {X:List UInt8} {k:Nat} {v:UInt8} (j:Nat) (hk:k<X.length):(X.set k v).getD j 0=if j=k then v else X.getD j 0:=by
 by_cases e:j=k
 ·subst e;simp [List.getD,hk]
 ·rw [if_neg e];simp [List.getD,Ne.symm e]
theorem rep_at (n j:Nat):(List.replicate n (0:UInt8)).getD j 0=0:=by
 rw [List.getD_eq_getElem?_getD,List.getElem?_replicate];split <;> rfl
theorem mix_all:∀ a n:Fin 16,mixB (UInt8.ofNat a.val) (n.val:Int)=UInt8.ofNat (16 * a.val+n.val):=by decide +kernel
theorem mix_at {a n:Nat} (ha:a<16) (hn:n<16):mixB (UInt8.ofNat a) (n:Int)=UInt8.ofNat (16 * a+n):=mix_all ⟨a,ha⟩ ⟨n,hn⟩
theorem hv_int {c:UInt8} (h:0≤Lib.indexByte hexL c):Lib.indexByte hexL c=((hv c:Nat):Int)∧hv c<16:=by
 have:=hexB_bd c
 unfold hv
 omega
def HexS (l X:List UInt8) (i:Nat):Prop :=
 X.length=l.length / 2∧(∀ j,j<i / 2→X.getD j 0=bx (l.getD (2 * j) 0) (l.getD (2 * j+1) 0))∧(i % 2=1→X.getD (i / 2) 0=UInt8.ofNat (hv (l.getD (i-1) 0)))∧∀ j,(i+1) / 2≤j→X.getD j 0=0
theorem HexS.start (l:List UInt8):HexS l (List.replicate (l.length / 2) 0) 0 :=
 ⟨List.length_replicate,fun j hj=>absurd hj (Nat.not_lt_zero j),fun h=>by omega,fun j _=>rep_at _ j⟩
theorem HexS.step {l X:List UInt8} {i:Nat} (h:HexS l X i) (hi:i<l.length) (he:l.length % 2=0) (hx:∀ j,j≤i→0≤Lib.indexByte hexL (l.getD j 0)):HexS l (X.set (i / 2) (mixB (X.getD (i / 2) 0) (Lib.indexByte hexL (l.getD i 0)))) (i+1):=by
 obtain ⟨h1,h2,h3,h4⟩:=h
 obtain ⟨n1,n2⟩:=hv_int (hx i (Nat.le_refl _))
 have hk:i / 2<X.length:=by omega
 rw [n1]
 refine ⟨by rw [List.length_set,h1],fun j hj=>?_,fun ho=>?_,fun j hj=>?_⟩
 ·rw [set_at j hk]
  by_cases e:j=i / 2
  ·rw [if_pos e]
   have ho:i % 2=1:=by omega
   obtain ⟨m1,m2⟩:=hv_int (hx (i-1) (by omega))
   rw [h3 ho,mix_at m2 n2,show 2 * j=i-1 by omega,show i-1+1=i by omega]
   rfl
  ·rw [if_neg e];exact h2 j (by omega)
 ·rw [set_at _ hk,if_pos (by omega),h4 (i / 2) (by omega)]
  have:=mix_at (a:=0) (by omega) n2
  rw [show i+1-1=i by omega]
  simpa using this
 ·rw [set_at j hk,if_neg (by omega)]
  exact h4 j (by omega)
theorem HexS.done {l X:List UInt8} {i:Nat} (h:HexS l X i) (hi:i=l.length) (he:l.length % 2=0):X=hexB l:=by
 obtain ⟨h1,h2,h3,h4⟩:=h
 have hl:=hexB_len l
 refine List.ext_getElem (by omega) fun j a b=>?_
 have e1:=h2 j (by omega)
 have e2:=hexB_get l j (by omega)
 rw [← e2] at e1
 simpa [List.getD,a,b] using e1
theorem dig_all:∀ c:Fin 256,Lib.indexByte hexL (UInt8.ofNat c.val)=if 48≤c.val∧c.val≤57 then (c.val:Int)-48 else if 97≤c.val∧c.val≤102 then (c.val:Int)-97+10 else -1:=by decide +kernel
theorem dig_at (c:UInt8):Lib.indexByte hexL c=if 48≤c.toNat∧c.toNat≤57 then (c.toNat:Int)-48 else if 97≤c.toNat∧c.toNat≤102 then (c.toNat:Int)-97+10 else -1:=by
 have h:=dig_all ⟨c.toNat,c.toNat_lt⟩
 have e:UInt8.ofNat (⟨c.toNat,c.toNat_lt⟩:Fin 256).val=c:=UInt8.ofNat_toNat
 rw [e] at h
 exact h
end
section
open Go.RowKit Cal
structure C11 where
 se:Int
 iss:List UInt8
 ge:Int
 who:S3
 nb:Int
 na:Int
 ky:List UInt8
 us:Int
 al:List (List UInt8)
def okA (l:List (List UInt8)) (j:Nat):Bool:=labM (l.getD j []) && (decide (j=0) || Op.bytesLess (l.getD (j-1) []) (l.getD j []))
def risesTo (l:List (List UInt8)):Nat→Bool
 | 0=>true
 | i+1=>risesTo l i && okA l i
def altsM (l:List (List UInt8)):Bool:=decide (l.length≤8) && risesTo l l.length
def inB (x n y:Int):Bool:=decide (x≤n) && decide (n≤y)
def rightC (c:C11):Bool:=altsM c.al && (inB 0 c.nb 253402300799 && inB c.nb c.na 253402300799) && inB 1 c.se 1099511627776 && inB 1 c.ge 1048576 && inB 1 c.us 15 && hexOk c.iss && hexOk c.ky && rightS c.who
theorem rises_all {l:List (List UInt8)}:∀ {i:Nat},risesTo l i=true→∀ j,j<i→okA l j=true
 | 0,_,j,hj=>absurd hj (Nat.not_lt_zero j)
 | i+1,h,j,hj=>by
  unfold risesTo at h
  rw [Bool.and_eq_true] at h
  by_cases e:j=i
  ·rw [e];exact h.2
  ·exact rises_all h.1 j (by omega)
theorem rises_no {l:List (List UInt8)} {j:Nat} (hj:okA l j=false):∀ {i:Nat},j<i→risesTo l i=false
 | 0,h=>absurd h (Nat.not_lt_zero j)
 | i+1,h=>by
  unfold risesTo
  by_cases e:j=i
  ·rw [← e,hj,Bool.and_false]
  ·rw [rises_no hj (show j<i by omega),Bool.false_and]
def vN4 (n:Int):V4:=⟨n,[],[],zeroS⟩
def vB4 (b:List UInt8):V4:=⟨0,[],b,zeroS⟩
def vS4 (s:S3):V4:=⟨0,[],[],s⟩
def fSe:Fd:=⟨3,1,1099511627776⟩
def fId:Fd:=⟨6,16,16⟩
def fGe:Fd:=⟨3,1,1048576⟩
def fWho:Fd:=⟨0,0,0⟩
def fMo:Fd:=⟨9,0,0⟩
def vFl (n:Int):VV:=⟨10,n,false,[],[]⟩
def vTx (t:List UInt8):VV:=⟨7,64,false,[],t⟩
def aFl:AA:=⟨10,0,0,0⟩
def aTx:AA:=⟨7,0,0,64⟩
theorem ok_Se:OkF fSe:=by unfold OkF fSe;decide
theorem ok_Id:OkF fId:=by unfold OkF fId;decide
theorem ok_Ge:OkF fGe:=by unfold OkF fGe;decide
theorem ok_Who:OkF fWho:=by unfold OkF fWho;decide
theorem ok_Mo:OkF fMo:=by unfold OkF fMo;decide
structure Good11 (c:C11):Prop where
 se:GoodF fSe (vN4 c.se)
 iss:GoodF fId (vB4 (hexB c.iss))
 ge:GoodF fGe (vN4 c.ge)
 who:GoodF fWho (vS4 c.who)
 nb:GoodF fMo (vN4 c.nb)
 na:GoodF fMo (vN4 c.na)
 ky:GoodF fId (vB4 (hexB c.ky))
 us:1≤c.us∧c.us≤15
 n8:c.al.length≤8
 al:∀ t ∈ c.al,askedM t 64=0
 hi:c.iss.length=32∧c.iss.all isHx=true
 hk:c.ky.length=32∧c.ky.all isHx=true
theorem hexOk_two {l:List UInt8} (h:hexOk l=true):l.length=32∧l.all isHx=true:=by
 unfold hexOk at h
 rw [Bool.and_eq_true,decide_eq_true_eq] at h
 exact h
theorem good_right11 {c:C11} (h:rightC c=true):Good11 c:=by
 unfold rightC altsM inB at h
 simp only [Bool.and_eq_true,decide_eq_true_eq] at h
 obtain ⟨⟨⟨⟨⟨⟨⟨⟨h8,hr⟩,⟨n1,n2⟩,n3,n4⟩,s1,s2⟩,g1,g2⟩,u1,u2⟩,hi⟩,hk⟩,hw⟩:=h
 have hi':=hexOk_two hi
 have hk':=hexOk_two hk
 have li:=hexB_len c.iss
 have lk:=hexB_len c.ky
 refine ⟨.inr (.inl ⟨.inl rfl,rfl,s1,s2⟩),.inr (.inr (.inl ⟨rfl,rfl,?_,?_⟩)),.inr (.inl ⟨.inl rfl,rfl,g1,g2⟩),.inl ⟨rfl,rfl,hw⟩,.inr (.inr (.inr (.inr ⟨rfl,rfl,?_⟩))),.inr (.inr (.inr (.inr ⟨rfl,rfl,?_⟩))),.inr (.inr (.inl ⟨rfl,rfl,?_,?_⟩)),⟨u1,u2⟩,h8,fun t ht=>?_,hi',hk'⟩
 ·show (16:Int)≤((hexB c.iss).length:Nat);omega
 ·show ((hexB c.iss).length:Nat)≤(16:Int);omega
 ·show 0≤c.nb∧c.nb≤253402300799;omega
 ·show 0≤c.na∧c.na≤253402300799;omega
 ·show (16:Int)≤((hexB c.ky).length:Nat);omega
 ·show ((hexB c.ky).length:Nat)≤(16:Int);omega
 ·obtain ⟨j,hj,rfl⟩:=List.getElem_of_mem ht
  have ho:=rises_all hr j hj
  unfold okA at ho
  rw [Bool.and_eq_true] at ho
  have hl:labM (c.al[j])=true:=by simpa [List.getD,hj] using ho.1
  have hl:=lab_ascii hl
  exact asked_ascii hl.1 hl.2.1 (by have:=hl.2.2;omega)
def encT (t:List UInt8):List UInt8:=putL 12 t
def bE (c:C11):List UInt8:=encF fId (vB4 (hexB c.ky))
def bF (c:C11):List UInt8:=putL 3 (flagsL c.us.toNat)
def bM (c:C11):List UInt8:=encF fMo (vN4 c.nb)++encF fMo (vN4 c.na)
def bT (c:C11):List UInt8:=(c.al.map encT).flatten
def r7 (c:C11):List UInt8:=putL 48 (bT c)++[]
def r6 (c:C11):List UInt8:=bF c++r7 c
def r5 (c:C11):List UInt8:=bE c++r6 c
def r4 (c:C11):List UInt8:=putL 48 (bM c)++r5 c
def r3 (c:C11):List UInt8:=encF fWho (vS4 c.who)++r4 c
def r2 (c:C11):List UInt8:=encF fGe (vN4 c.ge)++r3 c
def r1 (c:C11):List UInt8:=encF fId (vB4 (hexB c.iss))++r2 c
def r0 (c:C11):List UInt8:=encF fSe (vN4 c.se)++r1 c
def certB (c:C11):List UInt8:=putL 48 (r0 c)
section
variable {c:C11}
theorem fl_small (h:Good11 c):(flagsL c.us.toNat).length≤10:=by
 have hu:=h.us
 have e:=flags_len (m:=c.us.toNat) (by omega)
 have h8:=(len8_bd (i:=c.us.toNat) (by omega)).2.1
 have hb:bl c.us.toNat=len8 c.us.toNat:=by unfold bl;rw [if_neg (by omega)]
 omega
theorem encT_len {t:List UInt8} (h:askedM t 64=0):(encT t).length≤80∧0<(encT t).length:=by
 have h1:=asked_len h
 have h2:=putL_len 12 t
 have h3:=elB_pos (12,t)
 refine ⟨?_,h3⟩
 unfold encT
 omega
theorem flatT_len {l:List (List UInt8)}:(∀ t ∈ l,askedM t 64=0)→((l.map encT).flatten).length≤80 * l.length:=by
 induction l with
 | nil=>intro _;simp
 | cons t l ih =>
  intro h
  have h1:=(encT_len (h t List.mem_cons_self)).1
  have h2:=ih fun x hx=>h x (List.mem_cons_of_mem _ hx)
  rw [List.map_cons,List.flatten_cons,List.length_append,List.length_cons]
  omega
theorem bT_len (h:Good11 c):(bT c).length≤640:=by
 have:=flatT_len h.al
 have h8:=h.n8
 unfold bT
 omega
theorem cert_len (h:Good11 c):(r0 c).length≤30000∧(bM c).length≤8220∧(certB c).length≤30100:=by
 have a1:=(encF_bd ok_Se h.se).1
 have a2:=(encF_bd ok_Id h.iss).1
 have a3:=(encF_bd ok_Ge h.ge).1
 have a4:=(encF_bd ok_Who h.who).1
 have a5:=(encF_bd ok_Mo h.nb).1
 have a6:=(encF_bd ok_Mo h.na).1
 have a7:=(encF_bd ok_Id h.ky).1
 have a8:=fl_small h
 have a9:=bT_len h
 have b1:=putL_len 3 (flagsL c.us.toNat)
 have b2:=putL_len 48 (bT c)
 have b3:=putL_len 48 (bM c)
 have b4:=putL_len 48 (r0 c)
 have hM:(bM c).length≤8220:=by unfold bM;rw [List.length_append];omega
 have hR:(r0 c).length≤30000:=by
  unfold r0 r1 r2 r3 r4 r5 r6 r7 bE bF
  simp only [List.length_append,List.length_nil]
  omega
 refine ⟨hR,hM,?_⟩
 unfold certB
 omega
end
def tW (ws:W8) (l:List (List UInt8)):Nat→W8
 | 0=>openW 48 ws
 | i+1=>doW (vTx (l.getD i [])) (tW ws l i)
def mW (ws:W8) (l:List Int):Nat→W8
 | 0=>openW 48 ws
 | i+1=>putFd fMo (vN4 (l.getD i 0)) (mW ws l i)
def cW1 (c:C11):W8:=putFd fSe (vN4 c.se) (openW 48 w00)
def cW2 (c:C11):W8:=putFd fId (vB4 (hexB c.iss)) (cW1 c)
def cW3 (c:C11):W8:=putFd fGe (vN4 c.ge) (cW2 c)
def cW4 (c:C11):W8:=putFd fWho (vS4 c.who) (cW3 c)
def cW5 (c:C11):W8:=closeV (mW (cW4 c) [c.nb,c.na] 2)
def cW6 (c:C11):W8:=putFd fId (vB4 (hexB c.ky)) (cW5 c)
def cW7 (c:C11):W8:=doW (vFl c.us) (cW6 c)
def cW8 (c:C11):W8:=closeV (tW (cW7 c) c.al c.al.length)
def cW9 (c:C11):W8:=closeV (cW8 c)
section
variable {c:C11}
theorem put_mid {f:Fd} {v:V4} (ho:OkF f) (h:GoodF f v) {t:Int} {ls:List (List UInt8)} {fr:List (Int×List (List UInt8))} {d:List UInt8} (hl:fr.length<14):putFd f v ⟨(t,ls)::fr,d,0⟩=⟨(t,ls++[encF f v])::fr,d,0⟩:=by
 rw [putFd_ok ho h rfl (by rw [List.length_cons];omega),addW_in]
theorem open_mid {t:Int} {ls:List (List UInt8)} {fr:List (Int×List (List UInt8))} {d:List UInt8} (hl:fr.length<14):openW 48 ⟨(t,ls)::fr,d,0⟩=⟨(48,[])::(t,ls)::fr,d,0⟩:=by
 unfold openW
 rw [if_neg (by simp),if_neg (by decide),if_neg (by rw [List.length_cons];omega)]
theorem tx_mid {x:List UInt8} (h:askedM x 64=0) {t:Int} {ls:List (List UInt8)} {fr:List (Int×List (List UInt8))} {d:List UInt8}:doW (vTx x) ⟨(t,ls)::fr,d,0⟩=⟨(t,ls++[encT x])::fr,d,0⟩:=by
 rw [doW_put (v:=vTx x) (by show (3:Int)≤7∧(7:Int)≤10;decide)]
 have e:bodyV (vTx x)=(12,x,0):=by
  show ((12:Int),(if askedM x 64=0 then x else []),askedM x 64)=_
  rw [h,if_pos rfl]
 have hl:=asked_len h
 rw [e,put_ok rfl (show knownM 12=true by decide) (by dsimp only;omega),addW_in]
 rfl
theorem tW_mid {l:List (List UInt8)} (hg:∀ x ∈ l,askedM x 64=0) {t:Int} {ls:List (List UInt8)} {fr:List (Int×List (List UInt8))} {d:List UInt8} (hl:fr.length<14):∀ i,i≤l.length→tW ⟨(t,ls)::fr,d,0⟩ l i=⟨(48,(l.take i).map encT)::(t,ls)::fr,d,0⟩
 | 0,_=>open_mid hl
 | i+1,h=>by
  show doW (vTx (l.getD i [])) (tW _ l i)=_
  rw [tW_mid hg hl i (by omega)]
  have e:l.getD i []=l[i]'(by omega):=by simp [List.getD,show i<l.length by omega]
  rw [e,tx_mid (hg _ (List.getElem_mem _)),List.take_succ_eq_append_getElem (show i<l.length by omega),List.map_append]
  rfl
theorem cert_put (h:Good11 c):doneK (cW9 c)=0∧doneB (cW9 c)=certB c:=by
 obtain ⟨l1,l2,l3⟩:=cert_len h
 have hT:=bT_len h
 have hF:=fl_small h
 have hu:=h.us
 have e1:cW1 c=⟨[(48,[encF fSe (vN4 c.se)])],[],0⟩:=by unfold cW1;rw [show openW 48 w00=⟨[(48,[])],[],0⟩ from rfl,put_mid ok_Se h.se (by decide)];rfl
 have e2:cW2 c=⟨[(48,[encF fSe (vN4 c.se),encF fId (vB4 (hexB c.iss))])],[],0⟩:=by unfold cW2;rw [e1,put_mid ok_Id h.iss (by decide)];rfl
 have e3:cW3 c=⟨[(48,[encF fSe (vN4 c.se),encF fId (vB4 (hexB c.iss)),encF fGe (vN4 c.ge)])],[],0⟩:=by unfold cW3;rw [e2,put_mid ok_Ge h.ge (by decide)];rfl
 have e4:cW4 c=⟨[(48,[encF fSe (vN4 c.se),encF fId (vB4 (hexB c.iss)),encF fGe (vN4 c.ge),encF fWho (vS4 c.who)])],[],0⟩:=by unfold cW4;rw [e3,put_mid ok_Who h.who (by decide)];rfl
 have e5:cW5 c=⟨[(48,[encF fSe (vN4 c.se),encF fId (vB4 (hexB c.iss)),encF fGe (vN4 c.ge),encF fWho (vS4 c.who),putL 48 (bM c)])],[],0⟩:=by
  unfold cW5
  rw [e4]
  show closeV (putFd fMo (vN4 c.na) (putFd fMo (vN4 c.nb) (openW 48 _)))=_
  rw [open_mid (by decide),put_mid ok_Mo h.nb (by simp),put_mid ok_Mo h.na (by simp),close_ok (by decide) (by decide) (by show ([encF fMo (vN4 c.nb)]++[encF fMo (vN4 c.na)]).flatten.length≤_;simp only [List.flatten_append,List.flatten_singleton];unfold bM at l2;omega),addW_in]
  simp [bM]
 have e6:cW6 c=⟨[(48,[encF fSe (vN4 c.se),encF fId (vB4 (hexB c.iss)),encF fGe (vN4 c.ge),encF fWho (vS4 c.who),putL 48 (bM c),bE c])],[],0⟩:=by unfold cW6;rw [e5,put_mid ok_Id h.ky (by decide)];rfl
 have e7:cW7 c=⟨[(48,[encF fSe (vN4 c.se),encF fId (vB4 (hexB c.iss)),encF fGe (vN4 c.ge),encF fWho (vS4 c.who),putL 48 (bM c),bE c,bF c])],[],0⟩:=by
  unfold cW7
  rw [e6,doW_put (v:=vFl c.us) (by show (3:Int)≤10∧(10:Int)≤10;decide)]
  have e:bodyV (vFl c.us)=(3,flagsL c.us.toNat,0):=by
   show ((3:Int),bitsL c.us,bitsE c.us)=_
   unfold bitsL bitsE
   rw [if_neg (by omega),if_neg (by omega)]
  rw [e,put_ok rfl (show knownM 3=true by decide) (by dsimp only;omega),addW_in]
  rfl
 have e8:cW8 c=⟨[(48,[encF fSe (vN4 c.se),encF fId (vB4 (hexB c.iss)),encF fGe (vN4 c.ge),encF fWho (vS4 c.who),putL 48 (bM c),bE c,bF c,putL 48 (bT c)])],[],0⟩:=by
  unfold cW8
  rw [e7,tW_mid h.al (by decide) _ (Nat.le_refl _),List.take_length,close_ok (by decide) (by decide) (by unfold bT at hT;omega),addW_in]
  rfl
 have e9:cW9 c=⟨[],certB c,0⟩:=by
  unfold cW9
  have ef:[encF fSe (vN4 c.se),encF fId (vB4 (hexB c.iss)),encF fGe (vN4 c.ge),encF fWho (vS4 c.who),putL 48 (bM c),bE c,bF c,putL 48 (bT c)].flatten=r0 c:=by
   unfold r0 r1 r2 r3 r4 r5 r6 r7
   simp only [List.flatten_cons,List.flatten_nil]
  rw [e8,close_ok (by decide) (by decide) (by rw [ef];omega),ef]
  rfl
 have hz:doneK (⟨[],certB c,0⟩:W8)=0:=by
  unfold doneK
  rw [if_neg (by simp),if_neg (by simp),if_neg (by dsimp only;omega)]
 rw [e9]
 refine ⟨hz,?_⟩
 unfold doneB
 rw [if_pos hz]
end
end
section
open Go.RowKit Cal
def rtW (ws:R8) (l:List (List UInt8)):Nat→R8
 | 0=>rdoS (w1 48) ws
 | i+1=>rdoS (vTx (l.getD i [])) (rtW ws l i)
def rmW (ws:R8) (l:List Int):Nat→R8
 | 0=>rdoS (w1 48) ws
 | i+1=>rputFd fMo (vN4 (l.getD i 0)) (rmW ws l i)
def rW0:R8:=rdoS (w1 48) r00
def rW1 (c:C11):R8:=rputFd fSe (vN4 c.se) rW0
def rW2 (c:C11):R8:=rputFd fId (vB4 (hexB c.iss)) (rW1 c)
def rW3 (c:C11):R8:=rputFd fGe (vN4 c.ge) (rW2 c)
def rW4 (c:C11):R8:=rputFd fWho (vS4 c.who) (rW3 c)
def rW5 (c:C11):R8:=rdoS w2 (rmW (rW4 c) [c.nb,c.na] 2)
def rW6 (c:C11):R8:=rputFd fId (vB4 (hexB c.ky)) (rW5 c)
def rW7 (c:C11):R8:=rdoS (vFl c.us) (rW6 c)
def rW8 (c:C11):R8:=rdoS w2 (rtW (rW7 c) c.al c.al.length)
def rW9 (c:C11):R8:=rdoS w2 (rW8 c)
section
variable {c:C11}
theorem small_tx {x:List UInt8} (h:askedM x 64=0):SmallV (vTx x):=⟨by simp [vTx],by simp [vTx],by have:=asked_len h;show x.length≤300;omega⟩
theorem inv_0:Inv8 1 rW0 (openW 48 w00):=by
 have:=inv_do inv_00 (small_w1 (t:=48) (by decide))
 rw [do_w1] at this
 exact this
theorem inv_1 (h:Good11 c):Inv8 15 (rW1 c) (cW1 c):=inv_putFd ok_Se h.se inv_0
theorem inv_2 (h:Good11 c):Inv8 29 (rW2 c) (cW2 c):=inv_putFd ok_Id h.iss (inv_1 h)
theorem inv_3 (h:Good11 c):Inv8 43 (rW3 c) (cW3 c):=inv_putFd ok_Ge h.ge (inv_2 h)
theorem inv_4 (h:Good11 c):Inv8 57 (rW4 c) (cW4 c):=inv_putFd ok_Who h.who (inv_3 h)
theorem inv_m0 (h:Good11 c):Inv8 58 (rmW (rW4 c) [c.nb,c.na] 0) (mW (cW4 c) [c.nb,c.na] 0):=by
 have:=inv_do (inv_4 h) (small_w1 (t:=48) (by decide))
 rw [do_w1] at this
 exact this
theorem inv_m1 (h:Good11 c):Inv8 72 (rmW (rW4 c) [c.nb,c.na] 1) (mW (cW4 c) [c.nb,c.na] 1):=inv_putFd ok_Mo h.nb (inv_m0 h)
theorem inv_m2 (h:Good11 c):Inv8 86 (rmW (rW4 c) [c.nb,c.na] 2) (mW (cW4 c) [c.nb,c.na] 2):=inv_putFd ok_Mo h.na (inv_m1 h)
theorem inv_5 (h:Good11 c):Inv8 87 (rW5 c) (cW5 c):=by
 have:=inv_do (inv_m2 h) small_w2
 rw [do_w2] at this
 exact this
theorem inv_6 (h:Good11 c):Inv8 101 (rW6 c) (cW6 c):=inv_putFd ok_Id h.ky (inv_5 h)
theorem inv_7 (h:Good11 c):Inv8 102 (rW7 c) (cW7 c):=inv_do (inv_6 h) ⟨by have:=h.us;show _≤c.us∧c.us≤_;omega,by simp [vFl],by simp [vFl]⟩
theorem inv_t (h:Good11 c):∀ i,i≤c.al.length→Inv8 (103+i) (rtW (rW7 c) c.al i) (tW (cW7 c) c.al i)
 | 0,_=>by
  have:=inv_do (inv_7 h) (small_w1 (t:=48) (by decide))
  rw [do_w1] at this
  exact this
 | i+1,hi=>by
  have e:c.al.getD i []=c.al[i]'(by omega):=by simp [List.getD,show i<c.al.length by omega]
  exact inv_do (inv_t h i (by omega)) (small_tx (by rw [e];exact h.al _ (List.getElem_mem _)))
theorem inv_8 (h:Good11 c):Inv8 112 (rW8 c) (cW8 c):=by
 have h8:=h.n8
 have:=inv_do (inv_t h _ (Nat.le_refl _)) small_w2
 rw [do_w2] at this
 obtain ⟨i1,i2,i3,i4⟩:=this
 exact ⟨i1,Nat.le_trans i2 (by omega),fun x hx=>⟨Nat.le_trans (i3 x hx).1 (by omega),Nat.le_trans (i3 x hx).2 (by omega)⟩,i4⟩
theorem inv_9 (h:Good11 c):Inv8 113 (rW9 c) (cW9 c):=by
 have:=inv_do (inv_8 h) small_w2
 rw [do_w2] at this
 exact this
theorem cert_rput (h:Good11 c):rdoneE (rW9 c)=0∧rdoneB (rW9 c)=certB c:=by
 have hs:=same_done (inv_9 h).same
 have hp:=cert_put h
 exact ⟨hs.1.trans hp.1,hs.2.trans hp.2⟩
def cX (c:C11):List (Int×List UInt8):=[fdX fSe (vN4 c.se),fdX fId (vB4 (hexB c.iss)),fdX fGe (vN4 c.ge),fdX fWho (vS4 c.who),(48,bM c),fdX fId (vB4 (hexB c.ky)),(3,flagsL c.us.toNat),(48,bT c)]
theorem cX_flat:((cX c).map elB).flatten=r0 c:=by
 unfold cX r0 r1 r2 r3 r4 r5 r6 r7 bE bF
 simp only [List.map_cons,List.map_nil,List.flatten_cons,List.flatten_nil]
 rfl
theorem bM_flat:([fdX fMo (vN4 c.nb),fdX fMo (vN4 c.na)].map elB).flatten=bM c:=by
 unfold bM
 simp only [List.map_cons,List.map_nil,List.flatten_cons,List.flatten_nil,List.append_nil]
 rfl
theorem bT_flat:((c.al.map fun t=>((12:Int),t)).map elB).flatten=bT c:=by
 unfold bT
 rw [List.map_map]
 rfl
theorem cert_depth (h:Good11 c):(depthM (certB c)).2=0:=by
 obtain ⟨l1,l2,l3⟩:=cert_len h
 have hT:=bT_len h
 have hF:=fl_small h
 have eM:Lev 4 (48,bM c):=by
  rw [← bM_flat]
  refine lev_made (d:=3) (by decide) (by decide) (by decide) (fun x hx=>?_) (by rw [bM_flat];omega)
  simp only [List.mem_cons,List.not_mem_nil,or_false] at hx
  rcases hx with rfl|rfl
  ·exact (encF_bd ok_Mo h.nb).2.2
  ·exact (encF_bd ok_Mo h.na).2.2
 have eT:Lev 2 (48,bT c):=by
  rw [← bT_flat]
  refine lev_made (d:=1) (by decide) (by decide) (by decide) (fun x hx=>?_) (by rw [bT_flat];omega)
  obtain ⟨t,ht,rfl⟩:=List.mem_map.1 hx
  have:=asked_len (h.al t ht)
  exact lev_plain (by decide) (by decide) (by omega)
 have hL:Lev 5 (48,r0 c):=by
  rw [← cX_flat]
  refine lev_made (d:=4) (by decide) (by decide) (by decide) (fun x hx=>?_) (by rw [cX_flat];omega)
  simp only [cX,List.mem_cons,List.not_mem_nil,or_false] at hx
  rcases hx with rfl|rfl|rfl|rfl|rfl|rfl|rfl|rfl
  ·exact ((encF_bd ok_Se h.se).2.2).mono (by decide)
  ·exact ((encF_bd ok_Id h.iss).2.2).mono (by decide)
  ·exact ((encF_bd ok_Ge h.ge).2.2).mono (by decide)
  ·exact ((encF_bd ok_Who h.who).2.2).mono (by decide)
  ·exact eM
  ·exact ((encF_bd ok_Id h.ky).2.2).mono (by decide)
  ·exact (lev_plain (by decide) (by decide) (by omega)).mono (by decide)
  ·exact eT.mono (by decide)
 have e:elB (48,r0 c)=certB c:=rfl
 have hd:=lev_depth hL (by decide) (by rw [e];omega)
 rw [e] at hd
 exact hd
def s0 (c:C11):List (List UInt8):=[[]]++[r0 c]
def s1 (c:C11):List (List UInt8):=[[]]++[r1 c]
def s2 (c:C11):List (List UInt8):=[[]]++[r2 c]
def s3 (c:C11):List (List UInt8):=[[]]++[r3 c]
def s4 (c:C11):List (List UInt8):=[[]]++[r4 c]
def m0 (c:C11):List (List UInt8):=[[]]++[r5 c]++[bM c]
def m1 (c:C11):List (List UInt8):=[[]]++[r5 c]++[encF fMo (vN4 c.na)++[]]
def m2 (c:C11):List (List UInt8):=[[]]++[r5 c]++[[]]
def s5 (c:C11):List (List UInt8):=[[]]++[r5 c]
def s6 (c:C11):List (List UInt8):=[[]]++[r6 c]
def s7 (c:C11):List (List UInt8):=[[]]++[r7 c]
def s8:List (List UInt8):=[[]]++[[]]
def s9:List (List UInt8):=[[]]
theorem rd_0 (h:Good11 c):enterL 48 [certB c] 0=s0 c∧(enterR 48 [certB c] 0).k=0:=by
 obtain ⟨e1,e2,_⟩:=enter_fwd [] (t:=48) (b:=r0 c) [] (by decide) (by have:=(cert_len h).1;omega)
 rw [List.append_nil] at e1 e2
 exact ⟨e1,e2⟩
theorem rd_1 (h:Good11 c):readF fSe (s0 c) 0=((s1 c,0),vN4 c.se):=field_fwd ok_Se h.se [[]] (r1 c)
theorem rd_2 (h:Good11 c):readF fId (s1 c) 0=((s2 c,0),vB4 (hexB c.iss)):=field_fwd ok_Id h.iss [[]] (r2 c)
theorem rd_3 (h:Good11 c):readF fGe (s2 c) 0=((s3 c,0),vN4 c.ge):=field_fwd ok_Ge h.ge [[]] (r3 c)
theorem rd_4 (h:Good11 c):readF fWho (s3 c) 0=((s4 c,0),vS4 c.who):=field_fwd ok_Who h.who [[]] (r4 c)
theorem rd_m0 (h:Good11 c):enterL 48 (s4 c) 0=m0 c∧(enterR 48 (s4 c) 0).k=0:=by
 obtain ⟨e1,e2,_⟩:=enter_fwd [[]] (t:=48) (b:=bM c) (r5 c) (by decide) (by have:=(cert_len h).2.1;omega)
 exact ⟨e1,e2⟩
theorem rd_m1 (h:Good11 c):readF fMo (m0 c) 0=((m1 c,0),vN4 c.nb):=by
 have:=field_fwd ok_Mo h.nb ([[]]++[r5 c]) (encF fMo (vN4 c.na)++[])
 have e:m0 c=[[]]++[r5 c]++[encF fMo (vN4 c.nb)++(encF fMo (vN4 c.na)++[])]:=by unfold m0 bM;rw [List.append_nil]
 rw [e]
 exact this
theorem rd_m2 (h:Good11 c):readF fMo (m1 c) 0=((m2 c,0),vN4 c.na):=field_fwd ok_Mo h.na ([[]]++[r5 c]) []
theorem rd_5:leaveL (m2 c) 0=s5 c∧leaveK (m2 c) 0=0:=leave_fwd (ls:=[[]]++[r5 c]) (by simp)
theorem rd_6 (h:Good11 c):readF fId (s5 c) 0=((s6 c,0),vB4 (hexB c.ky)):=field_fwd ok_Id h.ky [[]] (r6 c)
theorem said_fl (h:Good11 c):saidM aFl (flagsL c.us.toNat)=(vN c.us,0):=by
 have hu:=h.us
 have hm:=mask_flags (m:=c.us.toNat) (by omega)
 show (vN ((maskM (flagsL c.us.toNat)).1:Nat),(maskM (flagsL c.us.toNat)).2)=_
 rw [hm]
 show (vN ((c.us.toNat:Nat):Int),0)=_
 rw [Int.toNat_of_nonneg (by omega)]
theorem rd_7 (h:Good11 c):readR aFl (s6 c) 0=⟨s7 c,0,vN c.us⟩:=by
 have hs:=said_fl h
 have:=read_fwd aFl [[]] (b:=flagsL c.us.toNat) (r7 c) (by show (3:Int)≤10∧(10:Int)≤10;decide) (by have:=fl_small h;omega) (by rw [hs])
 rw [hs] at this
 exact this
def txSp:StepR (List UInt8):=fun l k=>(((readR aTx l k).l,(readR aTx l k).k),(readR aTx l k).v.t)
theorem said_tx {x:List UInt8} (h:askedM x 64=0):saidM aTx x=(vT x,0):=by
 show (vT (if askedM x 64=0 then x else []),askedM x 64)=_
 rw [h,if_pos rfl]
theorem tx_fb:StepFB txSp encT (fun x=>askedM x 64=0):=⟨fun ls x r hx=>by
  have hl:=asked_len hx
  have:=read_fwd aTx ls (b:=x) r (by show (3:Int)≤7∧(7:Int)≤10;decide) (by omega) (by rw [said_tx hx])
  have e:encT x=putL (tagA aTx) x:=rfl
  unfold txSp
  rw [e,this,said_tx hx]
  rfl,fun ls x k h=>by
  have h':(readR aTx (ls++[x]) k).k=0:=h
  obtain ⟨h1,b,r,h2,h3,h4,h5⟩:=read_back (a:=aTx) (by show (3:Int)≤7∧(7:Int)≤10;decide) h'
  have hb:askedM b 64=0:=h4
  refine ⟨h1,b,r,hb,h2,?_⟩
  unfold txSp
  rw [h5,said_tx hb]
  rfl,fun x hx=>(encT_len hx).2⟩
end
end
section
theorem hexOk_all {l:List UInt8} (hl:l.length=32) (h:∀ j,j<l.length→0≤Lib.indexByte hexL (l.getD j 0)):hexOk l=true:=by
 simp only [hexOk,Bool.and_eq_true,List.all_eq_true,decide_eq_true_eq]
 refine ⟨hl,fun c hc=>?_⟩
 obtain ⟨j,hj,rfl⟩:=List.getElem_of_mem hc
 have:=h j hj
 simpa [List.getD,hj] using this
theorem hexOk_len {l:List UInt8} (h:l.length≠32):hexOk l=false:=by unfold hexOk;rw [decide_eq_false h];rfl
theorem hexOk_is {l:List UInt8} (h:hexOk l=true):l.length=32∧l.all isHx=true:=by
 unfold hexOk at h
 rw [Bool.and_eq_true,decide_eq_true_eq] at h
 exact h
set_option maxHeartbeats 1000000 in
theorem mnum_ac {gs:List Nat} [Ok9 gs] (l:List UInt8):ACp gs Tryz.prog 169 [strC l] (.tup 2 (fl [bsC (if hexOk l=true then hexB l else []),.err (if hexOk l=true then 0 else 4)])):=by
 refine ac_of 39 Tryz.func169 rfl rfl rfl (fun al w0 F0 St0=>?_)
 refine jU 52400001675116 ?_;refine jcc (fun h99=>?_) fun h99=>?_
 ·refine jcs ?_;refine jcd (.rd 0 (.rd 1 (.rd 2 .done))) ?_;refine jU 88070704000000 ?_
  refine jR (jtr (jrt (hv:=?_)))
  have hb:hexOk l=false:=hexOk_len (by omega)
  rw [hb]
  exact cT (CEnt.nilS' rfl) (CEnt.errN rfl)
 refine jU 6810 ?_
 refine jqe (e_make (F:=byF (List.replicate 16 0)) rfl rfl rfl (show (16:Int)=((16:Nat):Int) from rfl) (show (16:Int)=((16:Nat):Int) from rfl) (by (omega)) Tryz.underlying22 sz5 zr5 by5 (by (omega)) (by (omega)) (fun j hj=>by rw [zero_cell j];exact zero16 j) rfl rfl (fun p1=>?_))
 refine jU 20514000016751 ?_
 have h32:l.length=32:=by omega
 refine l_loop (α:=Nat×List UInt8) [2,3,5,6,14,15,16,17,18,19,20,21,22,23,24,25,26,27,28,29,30,31,32,33,34,35,36,37] (fun (i,X)=>[(14,.c (.int .i64 (i:Nat)))]) (fun (i,X)=>[(p1,.blk 16 (byF X))]) (fun (i,X)=>i≤l.length∧HexS l X i∧∀ j,j<i→0≤Lib.indexByte hexL (l.getD j 0)) (fun (i,X)=>l.length-i) ((0,List.replicate 16 0)) ?_ (fun _=>rfl) ?_ ?_ ?_
 ·exact ⟨Nat.zero_le _,(by have:=HexS.start l;rw [show l.length / 2=16 by omega] at this;exact this),fun j hj=>absurd hj (Nat.not_lt_zero j)⟩
 ·exact .cons cZ .nil
 ·exact .same .nil
 ·rintro ⟨i,X⟩ ⟨(hi:i≤l.length),(hS:HexS l X i),he⟩
  have hhx:=hexB_bd (l.getD i 0)
  have hXl:X.length=16:=by rw [hS.1];omega
  refine jU 7526 ?_;refine jcc (fun h103=>?_) fun h103=>?_
  rotate_left
  ·refine jU 84000200020006000 ?_
   have hil:i=l.length:=by omega
   have hXe:=hS.done hil (by omega)
   refine jE (freeze 0 rfl) ?_;refine jE (thaw 4 (fun k=>fun _=>byF X k) rfl rfl (by omega) (fun a b ha hb=>CEnt.of_eq (by rw [Nat.zero_add];congr 1;omega))) ?_;refine jU 51116 ?_
   refine jR (jrt (hv:=?_))
   have hall:=hexOk_all h32 (fun j hj=>he j (by omega))
   rw [if_pos hall,if_pos hall]
   exact cT (CEnt.rs (by rw [hexB_len];omega) fun i j hi hj=>CEnt.of_eq (by rw [hXe])) (CEnt.nilE rfl)
  refine jU 800000001165116207810 ?_
  refine jqe (jecP (idxB_ac hexL (l.getD i 0)) ?_)
  refine jU 5216751 ?_;refine jcc (fun h105=>?_) fun h105=>?_
  ·refine jcs ?_;refine jcd (.rd 0 (.rd 1 (.rd 2 .done))) ?_;refine jU 88070704000000 ?_
   refine jR (jtr (jbr (jtr (jtr (jbr (jtr (jrt (hv:=?_))))))))
   have hb:hexOk l=false:=hex_bad (i:=i) (by omega) (by omega)
   rw [hb]
   exact cT (CEnt.nilS' rfl) (CEnt.errN rfl)
  refine jU 6000001160000011200810 ?_;refine jq (jri (i:=(i / 2)) (hz:=by omega)) ?_;refine jU 50 ?_;refine jq (rd_shl rfl rfl rfl (by (omega)) ((shl4 (X.getD (i / 2) 0))) (rfl)) ?_;refine jU 8000001 ?_;refine jq (rd_or rfl rfl rfl ((orB (shl4 (X.getD (i / 2) 0)) (Lib.indexByte hexL (l.getD i 0)))) (rfl)) ?_;refine jq (jri (i:=(i / 2)) (hz:=by omega)) ?_
  refine jqm (jmstF 1 (byF (X.set (i / 2) (mixB (X.getD (i / 2) 0) (Lib.indexByte hexL (l.getD i 0))))) ?_ ?_)
  ·exact (fun j hj=>upd_byte (mixB_int _ _) (by omega) j)
  refine jU 851920084005 ?_
  refine jlend ((i+1,X.set (i / 2) (mixB (X.getD (i / 2) 0) (Lib.indexByte hexL (l.getD i 0))))) ?_ ?_ (h5:=?_) (h7:=?_)
  ·have hx:∀ j,j≤i→0≤Lib.indexByte hexL (l.getD j 0):=fun j hj=>by
    by_cases e:j=i
    ·subst e;omega
    ·exact he j (by omega)
   exact ⟨by omega,hS.step (by omega) (by omega) hx,fun j hj=>hx j (by omega)⟩
  ·show l.length-(i+1)<l.length-i;omega
  ·exact .cons (cI (by omega)) .nil
  ·exact .same .nil
def OutS (l X:List UInt8) (i:Nat):Prop :=
 X.length=(i+1) / 2∧(∀ j,j<i / 2→X.getD j 0=bx (l.getD (2 * j) 0) (l.getD (2 * j+1) 0))∧(i % 2=1→X.getD (i / 2) 0=UInt8.ofNat (16 * hv (l.getD (i-1) 0)))
theorem OutS.push {l X:List UInt8} {i:Nat} (h:OutS l X i) (he:i % 2=0):OutS l (X++[UInt8.ofNat (16 * hv (l.getD i 0))]) (i+1):=by
 obtain ⟨h1,h2,h3⟩:=h
 refine ⟨by rw [List.length_append,h1,List.length_singleton];omega,fun j hj=>?_,fun _=>?_⟩
 ·rw [← h2 j (by omega)]
  simp [List.getD,List.getElem?_append_left (show j<X.length by omega)]
 ·rw [show (i+1) / 2=X.length by omega,show i+1-1=i by omega]
  simp [List.getD]
theorem OutS.put {l X:List UInt8} {i:Nat} (h:OutS l X i) (he:i % 2=1):OutS l (X.set (i / 2) (bx (l.getD (i-1) 0) (l.getD i 0))) (i+1):=by
 obtain ⟨h1,h2,h3⟩:=h
 refine ⟨by rw [List.length_set,h1];omega,fun j hj=>?_,fun h=>by omega⟩
 rw [set_at j (by omega)]
 by_cases e:j=i / 2
 ·rw [if_pos e,show 2 * j=i-1 by omega,show i-1+1=i by omega]
 ·rw [if_neg e];exact h2 j (by omega)
theorem OutS.done {l X:List UInt8} (h:OutS l X l.length) (he:l.length=32):X=hexB l:=by
 obtain ⟨h1,h2,_⟩:=h
 have hl:=hexB_len l
 refine List.ext_getElem (by omega) fun j a b=>?_
 have e1:=h2 j (by omega)
 have e2:=hexB_get l j (by omega)
 rw [← e2] at e1
 simpa [List.getD,a,b] using e1
theorem hv_dig (c:UInt8):(48≤c.toNat∧c.toNat≤57→((hv c:Nat):Int)=(c.toNat:Int)-48∧0≤Lib.indexByte hexL c)∧(97≤c.toNat∧c.toNat≤102→((hv c:Nat):Int)=(c.toNat:Int)-97+10∧0≤Lib.indexByte hexL c)∧(¬ (48≤c.toNat∧c.toNat≤57)→¬ (97≤c.toNat∧c.toNat≤102)→Lib.indexByte hexL c<0):=by
 have hd:=dig_at c
 unfold hv
 refine ⟨fun h=>?_,fun h=>?_,fun h1 h2=>?_⟩
 ·rw [if_pos h] at hd;omega
 ·rw [if_neg (by omega),if_pos h] at hd;omega
 ·rw [if_neg h1,if_neg h2] at hd;omega
theorem hv_lt (c:UInt8):hv c<16:=by have:=hexB_bd c;unfold hv;omega
theorem nat_u8 {n:Nat} (h:n<256):((UInt8.ofNat n).toNat:Nat)=n:=by rw [UInt8.toNat_ofNat'];omega
set_option maxHeartbeats 2000000 in
theorem rnum_ac {gs:List Nat} (l:List UInt8) (hl:l.length≤1000000):ACp gs Tryz.prog 180 [strC l] (.tup 2 (fl [if hexOk l=true then bsC (hexB l) else .top,.c (.bool (hexOk l))])):=by
 refine ac_of 59 Tryz.func180 rfl rfl rfl (fun al w0 F0 St0=>?_)
 refine jU 65116 ?_
 refine jqe (jebl 0 1 zr5 fun p1=>?_)
 refine jU 20516751 ?_;refine l_loop (α:=Nat×List UInt8×Option Nat) [2,3,4,5,6,7,9,10,11,12,13,14,15,16,17,18,19,20,21,22,23,24,25,26,27,28,29,30,31,32,33,34,35,36,37,38,39,40,41,42,43,44,45,46,47,48,49,50,51,52,53,54] (fun (i,X,g)=>[(5,.c (.int .i64 (i:Nat))),(4,.os 0 g 0 X.length 1)]) (fun (i,X,g)=>[(g,.blk X.length (byF X))]) (fun (i,X,g)=>i≤l.length∧OutS l X i∧∀ j,j<i→0≤Lib.indexByte hexL (l.getD j 0)) (fun (i,X,g)=>l.length-i) ((0,[],p1)) ?_ (fun _=>rfl) ?_ ?_ ?_
 ·exact ⟨Nat.zero_le _,⟨rfl,fun j hj=>absurd hj (Nat.not_lt_zero j),fun h=>absurd h (by decide)⟩,fun j hj=>absurd hj (Nat.not_lt_zero j)⟩
 ·exact .cons cZ (.cons cZ .nil)
 ·exact .blk rfl (fun j hj=>absurd hj (Nat.not_lt_zero j)) .nil
 ·rintro ⟨i,X,g⟩ ⟨(hi:i≤l.length),(hS:OutS l X i),he⟩
  have hd:=hv_dig (l.getD i 0)
  have hv16:=hv_lt (l.getD i 0)
  have hXl:X.length=(i+1) / 2:=hS.1
  have hv17:=hv_lt (l.getD (i-1) 0)
  have hXo:i % 2=1→(X.getD (i / 2) 0).toNat=16 * hv (l.getD (i-1) 0):=fun h=>by rw [hS.2.2 h];exact nat_u8 (by omega)
  refine jU 52400001167 ?_;refine jcc (fun h69=>?_) fun h69=>?_
  rotate_left
  ·refine jU 84000200020006000 ?_
   have hil:i=l.length:=by omega
   refine jE (freeze 0 rfl) ?_;refine jE (thaw 4 (fun k=>fun _=>byF X k) rfl rfl (by omega) (fun a b ha hb=>CEnt.of_eq (by rw [Nat.zero_add];congr 1;omega))) ?_;refine jU 511240000116 ?_
   refine jR (jrt (hv:=?_))
   have hall:hexOk l=decide (l.length=32):=by
    by_cases h32:l.length=32
    ·rw [hexOk_all h32 (fun j hj=>he j (by omega)),decide_eq_true h32]
    ·rw [hexOk_len h32,decide_eq_false h32]
   refine cT ?_ (cB (by rw [hall];exact decide_eq_decide.2 (by omega)))
   split
   ·rename_i ho
    have h32:=(hexOk_is ho).1
    subst hil
    have hX:=hS.done h32
    exact CEnt.rs (by rw [hX]) fun i j hi hj=>CEnt.of_eq (by rw [hX])
   ·exact CEnt.top _
  refine jU 810 ?_;refine code_join (α:=List UInt8×Option Nat) [2,3,4,6,7,15,16,17,18,19,20,21,22,23,24,25,26,27,28,29,30,31,32,33,34,35,36,37,38,39,40,41,42,43,44,45,46,47,48,49,50,51,52,53,54] (fun (Y,g')=>[(4,.os 0 g' 0 Y.length 1)]) (fun (Y,g')=>[(g',.blk Y.length (byF Y))]) (fun (Y,g')=>OutS l Y (i+1)∧0≤Lib.indexByte hexL (l.getD i 0)) (fun _=>rfl) ?_ ?_
  ·refine jU 516518000000011620 ?_;refine code_join (α:=Unit) [2,3,7,18,19,20,21,22,23,24,25,26,27,28,29,30,31,32,33,34,35,36] (fun _=>[(7,.c (.int .i64 (hv (l.getD i 0):Nat)))]) (fun _=>[(g,.blk X.length (byF X))]) (fun _=>0≤Lib.indexByte hexL (l.getD i 0)) (fun _=>rfl) ?_ ?_
   ·refine jU 1216 ?_;refine jqsp 20 (fun g72=>?_) fun g72=>?_
    rotate_left
    ·refine jU 1216300550044 ?_;refine jqsp 29 (fun g74=>?_) fun g74=>?_
     rotate_left
     ·refine jU 5116300550044 ?_
      refine jR (jtr (jbr (jtr (jtr (jbr (jtr (jrt (hv:=?_))))))))
      have hb:hexOk l=false:=hex_bad (i:=i) (by omega) (hd.2.2 (by omega) (by omega))
      rw [hb,if_neg (by decide)]
      exact cT (CEnt.top _) cZ
     refine jU 5800021 ?_;refine jcc (fun h74=>?_) fun h74=>?_
     rotate_left
     ·refine jU 5116 ?_
      refine jR (jtr (jbr (jtr (jtr (jbr (jtr (jrt (hv:=?_))))))))
      have hb:hexOk l=false:=hex_bad (i:=i) (by omega) (hd.2.2 (by omega) (by omega))
      rw [hb,if_neg (by decide)]
      exact cT (CEnt.top _) cZ
     refine jU 91200 ?_;refine jq (jrv .u8 .i64) ?_;refine jU 8519 ?_
     refine jjend (()) ?_ (h5:=?_) (h7:=?_)
     ·exact (hd.1 (by omega)).2
     ·exact .cons (cI (by exact (hd.2.1 (by omega)).1.symm)) .nil
     ·exact .same .nil
    refine jU 5800021 ?_;refine jcc (fun h72=>?_) fun h72=>?_
    ·refine jU 91200 ?_;refine jq (jrv .u8 .i64) ?_;refine jU 851 ?_
     refine jjend (()) ?_ (h5:=?_) (h7:=?_)
     ·exact (hd.1 (by omega)).2
     ·exact .cons (cI (by exact (hd.1 (by omega)).1.symm)) .nil
     ·exact .same .nil
    refine jU 1216 ?_;refine jqsp 29 (fun g74=>?_) fun g74=>?_
    rotate_left
    ·refine jU 5116300550044 ?_
     refine jR (jtr (jbr (jtr (jtr (jbr (jtr (jrt (hv:=?_))))))))
     have hb:hexOk l=false:=hex_bad (i:=i) (by omega) (hd.2.2 (by omega) (by omega))
     rw [hb,if_neg (by decide)]
     exact cT (CEnt.top _) cZ
    refine jU 5800021 ?_;refine jcc (fun h74=>?_) fun h74=>?_
    rotate_left
    ·refine jU 5116 ?_
     refine jR (jtr (jbr (jtr (jtr (jbr (jtr (jrt (hv:=?_))))))))
     have hb:hexOk l=false:=hex_bad (i:=i) (by omega) (hd.2.2 (by omega) (by omega))
     rw [hb,if_neg (by decide)]
     exact cT (CEnt.top _) cZ
    refine jU 91200 ?_;refine jq (jrv .u8 .i64) ?_;refine jU 8519 ?_
    refine jjend (()) ?_ (h5:=?_) (h7:=?_)
    ·exact (hd.2.1 (by omega)).2
    ·exact .cons (cI (by exact (hd.2.1 (by omega)).1.symm)) .nil
    ·exact .same .nil
   ·rintro u hx1
    refine jU 52100000016 ?_;refine jcc (fun h79=>?_) fun h79=>?_
    ·refine jU 800000911200 ?_
     refine jqe (jebl 1 1 zr5 fun p2=>?_)
     refine jqm (m_appendB (l2:=[UInt8.ofNat (16 * hv (l.getD i 0))]) rfl rfl rfl (Nat.le_refl _) (fun _ _=>cZ) (src_os rfl (.inl rfl) (by decide)) rfl (hh_bytes (.cons (cI ((by rw [nat_u8 (by omega)];omega))) .nil)) Tryz.underlying22 nu22 sz5 zr5 by5 rfl (by (simp;omega)) (leaf_fl rfl rfl) rfl rfl (fun p3=>?_))
     refine jU 840051 ?_
     refine jjend ((X++[UInt8.ofNat (16 * hv (l.getD i 0))],p3)) ?_ (h5:=?_) (h7:=?_)
     ·exact ⟨hS.push (by omega),hx1⟩
     ·exact .cons (cO (by simp)) .nil
     ·exact .blk (by simp) (fun j hj=>cZ) .nil
    refine jU 60000011200 ?_;refine jq (jri (i:=(i / 2)) (hz:=by omega)) ?_;refine jU 9800000150 ?_;refine jq (jri (i:=(i / 2)) (hz:=by omega)) ?_
    refine jqm (jmstF 1 (byF (X.set (i / 2) (bx (l.getD (i-1) 0) (l.getD i 0)))) ?_ ?_)
    ·exact (fun j hj=>upd_byte (by unfold bx;rw [nat_u8 (by have:=hv_lt (l.getD (i-1) 0);omega),hS.2.2 (by omega),nat_u8 (by have:=hv_lt (l.getD (i-1) 0);omega)];omega) (by omega) j)
    refine jU 84005 ?_
    refine jjend ((X.set (i / 2) (bx (l.getD (i-1) 0) (l.getD i 0)),g)) ?_ (h5:=?_) (h7:=?_)
    ·exact ⟨hS.put (by omega),hx1⟩
    ·exact .cons (cO (by simp)) .nil
    ·exact .blk (by simp) (fun j hj=>cZ) .nil
  ·rintro ⟨Y,g'⟩ ⟨hY,hx0⟩
   refine jU 85191200 ?_
   refine jlend ((i+1,Y,g')) ?_ ?_ (h5:=?_) (h7:=?_)
   ·exact ⟨by omega,hY,fun j hj=>by
     by_cases e:j=i
     ·subst e;exact hx0
     ·exact he j (by omega)⟩
   ·show l.length-(i+1)<l.length-i;omega
   ·exact .cons (cI (by omega)) (.cons cZ .nil)
   ·exact .same .nil
end
section
section
variable {P:Program} {G:Gh} {o:Oper} {env:List (Nat×CV)} {b0:Nat→CV} {H:List (Option Nat×Res)} {K:AS→Prop}
theorem freeze_heap (w:World) (b k:Nat) {cur:Array Value} {ty:TypeId} (h:w.heap[b]?=some (.cells cur ty (0,0))):(w.freeze ⟨b,k,none⟩ 1).heap[b]?=some (.cells cur ty (k,k+1)):=by
 unfold World.freeze
 rw [if_neg (by decide)]
 simp only [Array.getElem?_modify,h,if_true,Option.map_some]
 rfl
theorem freeze_other (w:World) (b k q:Nat) (hq:q≠b):(w.freeze ⟨b,k,none⟩ 1).heap[q]?=w.heap[q]?:=by
 unfold World.freeze
 rw [if_neg (by decide)]
 simp only [Array.getElem?_modify]
 rw [if_neg (fun h=>hq h.symm)]
theorem freeze_size (w:World) (b k:Nat):(w.freeze ⟨b,k,none⟩ 1).heap.size=w.heap.size∧(w.freeze ⟨b,k,none⟩ 1).os=w.os∧(w.freeze ⟨b,k,none⟩ 1).tape=w.tape∧(w.freeze ⟨b,k,none⟩ 1).output=w.output:=by
 unfold World.freeze
 rw [if_neg (by decide)]
 exact ⟨by simp,rfl,rfl,rfl⟩
theorem RelSt.mark {St:Nat→Prop} {s:AS} {a:Act} {w:World} (h:RelSt G St s a w) {i g n:Nat} {f:Nat→CV} (hH:s.H[i]?=some (some g,.blk n f)) {cur:Array Value} {ty:TypeId} (hc:w.heap[g]?=some (.cells cur ty (0,0))) (k:Nat) :
  (∀ b,St b→b≠g)∧RelSt G (fun b=>St b∨b=g) ⟨s.env,s.b,s.H.set i (some g,.frz n f)⟩ a (w.freeze ⟨g,k,none⟩ 1):=by
 obtain ⟨fp,hp⟩:=h.hp
 have hlt:i<s.H.length:=(List.getElem?_eq_some_iff.1 hH).1
 have hrep:=hp.rep i (some g) _ hH
 have hg:fp i g:=(hrep.1 g).2 rfl
 obtain ⟨hg1,hg2,hg3⟩:=hp.own i g hg
 have hnew:=freeze_heap w g k hc
 have hold:∀ b,b≠g→(w.freeze ⟨g,k,none⟩ 1).heap[b]?=w.heap[b]?:=fun b hb=>freeze_other w g k b hb
 obtain ⟨hsz,ho,ht,hu⟩:=freeze_size w g k
 have hs:∀ b,St b→St b∨b=g:=fun _ h=>.inl h
 have hne:∀ b,St b→b≠g:=fun b hb e=>hg2 (e ▸ hb)
 have he:Evo St w (w.freeze ⟨g,k,none⟩ 1):=⟨fun b cu ct cz hb hcu=>(hold b (hne b hb)).trans hcu,fun b cu t z hb=>by
  by_cases e:b=g
  ·subst e
   rw [hc] at hb
   cases hb
   exact ⟨cur,_,hnew,rfl⟩
  ·exact ⟨cu,z,(hold b e).trans hb,rfl⟩⟩
 refine ⟨hne,h.df.keep hs (fun b hb=>hold b (hne b hb)),h.sz,fun d=>RepC.evo he hs _ _ (h.env d),⟨ho.trans h.un.os,ht.trans h.un.tape,hu.trans h.un.output,by rw [hsz];exact h.un.size,fun k hk hF=>?_,fun b cu t z hb=>?_⟩,fun b hb=>.inl (h.s1 b hb),fun b hb=>?_,fun b hb=>?_,?_,?_,fun q hq=>.inl (h.sg.1 q hq),fun x hx=>.inl (h.sg.2 x hx)⟩
 ·refine (hold k (fun e=>?_)).trans (h.un.block k hk hF)
  subst e
  rcases hg3 with h1|h1
  ·omega
  ·exact hF h1
 ·obtain ⟨cur',z',h1,h2⟩:=h.un.sh b cu t z hb
  obtain ⟨cur2,z2,h3,h4⟩:=he.sh b cur' t z' h1
  exact ⟨cur2,z2,h3,h4.trans h2⟩
 ·rcases hb with hb|rfl
  ·exact h.s2 b hb
  ·exact .inr hg3
 ·rw [hsz]
  rcases hb with hb|rfl
  ·exact h.s3 b hb
  ·exact hg1
 ·refine ⟨fun j b=>j≠i∧fp j b,fun j q r hj=>?_,fun j l b h1 h2=>hp.dis j l b h1.2 h2.2,fun j b h1=>?_,fun j hj b h1=>hp.out j (by simpa using hj) b h1.2⟩
  ·by_cases e:j=i
   ·subst e
    simp [hlt] at hj
    obtain ⟨rfl,rfl⟩:=hj
    obtain ⟨h0,cur',t',h1,h2,h3⟩:=hrep
    rw [hc] at h1
    cases h1
    exact ⟨fun b hb=>absurd rfl hb.1,.inr rfl,cur,ty,_,hnew,h2,fun m hm=>RepC.evo he hs _ _ (h3 m hm)⟩
   ·rw [List.getElem?_set_ne (Ne.symm e)] at hj
    have e2:(fun b=>j≠i∧fp j b)=fp j:=funext fun b=>propext ⟨fun h=>h.2,fun h=>⟨e,h⟩⟩
    show r.rep G.al _ _ (fun b=>j≠i∧fp j b) q
    rw [e2]
    exact Res.rep_evo he hs (fun b hF=>hold b (fun e3=>e (hp.dis j i b hF (e3 ▸ hg)))) (hp.rep j q r hj)
  ·obtain ⟨h2,h3,h4⟩:=hp.own j b h1.2
   exact ⟨by rw [hsz];exact h2,fun hb=>hb.elim h3 fun hb=>h1.1 (hp.dis j i b h1.2 (hb ▸ hg)),h4⟩
 ·exact SentL.keep h.sn (fun q hq=>hold q (hne q (h.sg.1 q hq))) (fun q hq=>hold _ (hne _ (h.sg.2 q hq)))
end
end
end Am
end Go.Proofs.YthlpfjnkieaeeaaGreatDoor
