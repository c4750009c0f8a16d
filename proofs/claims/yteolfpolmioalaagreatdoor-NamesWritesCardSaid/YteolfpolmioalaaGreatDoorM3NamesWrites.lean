/- What the law leans on, part 3: W09p, W09q, Err, Num, NumC, W09r, AmK, AmL, AmM, SlB, P03, W03, W03b, L03, SlC, NumB, MarkC, L03p, P07s, P07d, P07, P07b, P04, Dec, P05, P05b, P06, W06, W06b, P04n, P04b -/
import Derived.Test.YteolfpolmioalaaGreatDoorM2NamesWrites
import Derived.Stop.Asserts
import Derived.RowKitTokens
import Derived.Sort.Statements
import Derived.Lib.DecodeN
import Derived.Lib.ValidU
import Derived.Test.YteolfpolmioalaaGreatDoorChecked
import Derived.Laws.BitsAllLaws
import Derived.IntWalk
import Derived.Lib.Join
import Derived.WalkKit

set_option maxRecDepth 100000
namespace Go.Proofs.YteolfpolmioalaaGreatDoor
set_option linter.unusedVariables false
namespace Am
section
variable {gs:List Nat} [OkG gs]
open Go.RowKit

def sF (s:S3):Nat→CV:=fl [.c (.int .i64 s.1),strC s.2.1,strC s.2.2]
theorem sF_k (s:S3) (x:Int) (j:Nat) (hj:j<3):CEnt (updF (sF s) 0 [.c (.int .i64 x)] j) (sF (x,s.2.1,s.2.2) j):=by
 rcases j with _|_|_|j <;> exact cZ
theorem sF_s (s:S3) (x:List UInt8) (j:Nat) (hj:j<3):CEnt (updF (sF s) 1 [strC x] j) (sF (s.1,x,s.2.2) j):=by
 rcases j with _|_|_|j <;> exact cZ
theorem sF_n (s:S3) (x:List UInt8) (j:Nat) (hj:j<3):CEnt (updF (sF s) 2 [strC x] j) (sF (s.1,s.2.1,x) j):=by
 rcases j with _|_|_|j <;> exact cZ
theorem guess_take {l:List P2} {i:Nat} (h:i<l.length):guessP (l.take (i+1))=stepP (guessP (l.take i)) (l.getD i ([],[])):=by
 unfold guessP
 rw [List.take_succ_eq_append_getElem h,List.foldl_append,p2_getD h]
 rfl
theorem nof_ac (l:List P2) (hl:l.length≤1000000):ACp gs Tryz.prog 19 [partsC l] (.tup 2 (fl [subjC (ofP l).1,.err (ofP l).2])):=by
 refine ac_of 52 Tryz.func19 rfl rfl rfl (fun al w0 F0 St0=>?_)
 refine jcr ?_
 refine jqe (jeal (n:=3) zr26 rfl fun p1=>?_)
 refine jq jrm ?_;refine jN ?_;refine jcr ?_
 refine jqe (jeal (n:=3) zr26 rfl fun p2=>?_)
 refine jN ?_;refine jcs ?_;refine jcr ?_;refine jq jrm ?_;refine jq jrl ?_;refine jq jrm ?_;refine jN ?_;refine jB ?_;refine l_loop (α:=Nat) [6,11,12,13,14,15,16,17,18,19,20,21,22,23,24,25,26,27,28,29,30,31,32,33,34,35] (fun i=>[(11,.c (.int .i64 (i:Nat)))]) (fun i=>[(p1,.blk 3 fun _=>.top),(p2,.blk 3 (sF (guessP (l.take i))))]) (fun i=>i≤l.length) (fun i=>l.length-i) (0) ?_ (fun _=>rfl) ?_ ?_ ?_
 ·exact Nat.zero_le _
 ·exact .cons cZ .nil
 ·exact .blk rfl (fun _ _=>CEnt.top _) (.blk rfl (fun j hj=>by rcases j with _|_|_|j <;> first|exact cZ|omega) .nil)
 ·rintro i (hi:i≤l.length)
  refine jcr ?_;refine jq jrc ?_;refine jN ?_;refine jcs ?_;refine jcc (fun h51=>?_) fun h51=>?_
  rotate_left
  ·refine jX (jte (jte (jbx (jtn ?_))))
   have ei:l.take i=l:=List.take_of_length_le (by omega)
   rw [ei]
   refine jcr ?_;refine jqo (jrdoA 3) ?_
   refine jqe (jecP (nparts_ac (guessP l)) ?_)
   refine jq jrm ?_;refine jq jrx ?_;refine jq jrx ?_;refine jq jrm ?_;refine jq jrm ?_;refine jN ?_;refine jcs ?_;refine jcr ?_;refine jq jrm ?_;refine jq jre ?_;refine jq jrm ?_;refine jqsp 43 (fun g62=>?_) fun g62=>?_
   ·refine jqs ?_;refine jqs ?_;refine jqs ?_;refine jqs ?_;refine jq jrpT ?_;refine jN ?_;refine jcT ?_;refine jcs ?_;refine jcdZ (.rd 0 (.rd 1 (.one 2 (.rd 3 .done)))) ?_;refine jzq (rd_build (n:=3) rfl zr26 pl26 rfl rfl) ?_;refine jzq (jrde 8) ?_
    refine jzm (jmst 3 ?_)
    refine jzq jrm ?_;refine jzd ?_;refine jtn ?_
    refine jR (jtr (jrt (hres:=res_2 rfl (javA 3) javt) (hv:=?_)))
    have hp:ofP l=(zeroS,9):=by
     unfold ofP
     refine if_neg fun hh=>?_
     simp_all
    rw [hp];exact CEnt.tup2 (CEnt.agg3 cZ cZ cZ) cZ
   refine jq jrm ?_;refine jq jrm ?_
   refine jqe (jecP (equalP_ac (if rightS (guessP l)=true then partsS (guessP l) else []) l) ?_)
   refine jq jrn ?_;refine jq jrpF ?_;refine jN ?_;refine jcc (fun h62=>?_) fun h62=>?_
   ·refine jcs ?_;refine jcdZ (.rd 0 (.rd 1 (.one 2 (.rd 3 .done)))) ?_;refine jzq (rd_build (n:=3) rfl zr26 pl26 rfl rfl) ?_;refine jzq (jrde 8) ?_
    refine jzm (jmst 3 ?_)
    refine jzq jrm ?_;refine jzd ?_;refine jtn ?_
    refine jR (jtr (jrt (hres:=res_2 rfl (javA 3) javt) (hv:=?_)))
    have hp:ofP l=(zeroS,9):=by
     unfold ofP
     refine if_neg fun hh=>?_
     simp_all
    rw [hp];exact CEnt.tup2 (CEnt.agg3 cZ cZ cZ) cZ
   refine jS (jtn ?_)
   refine jcr ?_;refine jqo (jrdoA 3) ?_
   refine jqm (jmst 3 ?_)
   refine jq jrm ?_;refine jN ?_
   refine jR (jrt (hres:=res_2 rfl (javA 3) javt) (hv:=?_))
   have hr:rightS (guessP l)=true:=by
    cases hb:rightS (guessP l) with
    | true=>rfl
    | false=>simp_all
   have ht:partsS (guessP l)=l:=by simp_all
   have hp:ofP l=(guessP l,0):=by unfold ofP;rw [if_pos ⟨hr,ht⟩]
   rw [hp]
   exact CEnt.tup2 (CEnt.agg3 cZ cZ cZ) CEnt.nil
  refine jS (jtn ?_)
  refine jcs ?_;refine jB ?_;refine jcr ?_;refine jq jri ?_;refine jq (jrdrA 2) ?_
  refine jqe (jeal (n:=2) zr91 rfl fun p3=>?_)
  refine jqm (jmst 2 ?_)
  refine jN ?_;refine jcr ?_;refine jq (jrfa 0 1 false) ?_;refine jqo jrdo ?_;refine jN ?_;refine jB ?_;refine jcr ?_;refine jq jrcs ?_;refine jq jrm ?_;refine jN ?_;refine jcc (fun h53=>?_) fun h53=>?_
  ·refine jcdB 6 (.rd 1 (.rd 2 (.one 0 (.one 3 (.rd 4 (.rd 5 .done)))))) ?_;refine jyq (jrfa 1 1 false) ?_;refine jyo jrdo ?_
   refine jye (jecP words_ac ?_)
   refine jye (jecP (indexS_ac wordL (l.getD i ([],[])).2) ?_)
   refine jyq (rd_addW rfl rfl rfl ((idxW (l.getD i ([],[])).2)) ((by rw [idx_wordL];exact wrap_id (k:=.i64) (by show _∧_;have:=idxW_bd (l.getD i ([],[])).2;omega)))) ?_;refine jyq (jrfa 0 1 false) ?_;refine jyd ?_
   show ASeq _ _ _ _ _ _
   refine jqm (jmst 1 ?_)
   refine jN ?_
   refine jbn (jbn (jtn ?_))
   refine jcg ?_;refine jq jra ?_;refine jq jrm ?_;refine jN ?_;refine jtn ?_
   refine jlend (i+1) ?_ ?_ (h5:=?_) (h7:=?_)
   ·show i+1≤l.length;omega
   ·show l.length-(i+1)<l.length-i;omega
   ·exact .cons (CEnt.int (by omega)) .nil
   ·have ht:=guess_take (l:=l) (i:=i) (by omega)
    unfold stepP at ht
    rw [show oidK=[49,46,51,46,57,57,57,57,46,49,46,49] from rfl,show oidS=[49,46,51,46,57,57,57,57,46,49,46,50] from rfl,show oidN=[49,46,51,46,57,57,57,57,46,49,46,51] from rfl] at ht
    first
    |(rw [if_pos h53] at ht;rw [ht];refine .same (.blk rfl (fun j hj=>?_) .nil);have:=sF_k (guessP (l.take i)) (idxW (l.getD i ([],[])).2) j hj;exact this)
    |(rw [if_neg h53,if_pos h55] at ht;rw [ht];exact .same (.blk rfl (fun j hj=>sF_s _ _ j hj) .nil))
    |(rw [if_neg h53,if_neg h55,if_pos h57] at ht;rw [ht];exact .same (.blk rfl (fun j hj=>sF_n _ _ j hj) .nil))
    |(rw [if_neg h53,if_neg h55,if_neg h57] at ht;rw [ht];exact .same (.same .nil))
  refine jcr ?_;refine jq jrcs ?_;refine jq jrm ?_;refine jN ?_;refine jcc (fun h55=>?_) fun h55=>?_
  ·refine jcg ?_;refine jq (jrfa 1 1 false) ?_;refine jqo jrdo ?_;refine jq (jrfa 1 1 false) ?_
   refine jqm (jmst 1 ?_)
   refine jN ?_
   refine jbn (jbn (jtn ?_))
   refine jcg ?_;refine jq jra ?_;refine jq jrm ?_;refine jN ?_;refine jtn ?_
   refine jlend (i+1) ?_ ?_ (h5:=?_) (h7:=?_)
   ·show i+1≤l.length;omega
   ·show l.length-(i+1)<l.length-i;omega
   ·exact .cons (CEnt.int (by omega)) .nil
   ·have ht:=guess_take (l:=l) (i:=i) (by omega)
    unfold stepP at ht
    rw [show oidK=[49,46,51,46,57,57,57,57,46,49,46,49] from rfl,show oidS=[49,46,51,46,57,57,57,57,46,49,46,50] from rfl,show oidN=[49,46,51,46,57,57,57,57,46,49,46,51] from rfl] at ht
    first
    |(rw [if_pos h53] at ht;rw [ht];refine .same (.blk rfl (fun j hj=>?_) .nil);have:=sF_k (guessP (l.take i)) (idxW (l.getD i ([],[])).2) j hj;exact this)
    |(rw [if_neg h53,if_pos h55] at ht;rw [ht];exact .same (.blk rfl (fun j hj=>sF_s _ _ j hj) .nil))
    |(rw [if_neg h53,if_neg h55,if_pos h57] at ht;rw [ht];exact .same (.blk rfl (fun j hj=>sF_n _ _ j hj) .nil))
    |(rw [if_neg h53,if_neg h55,if_neg h57] at ht;rw [ht];exact .same (.same .nil))
  refine jcr ?_;refine jq jrcs ?_;refine jq jrm ?_;refine jN ?_;refine jcc (fun h57=>?_) fun h57=>?_
  rotate_left
  ·refine jS (jbn (jbn (jtn ?_)))
   refine jcg ?_;refine jq jra ?_;refine jq jrm ?_;refine jN ?_;refine jtn ?_
   refine jlend (i+1) ?_ ?_ (h5:=?_) (h7:=?_)
   ·show i+1≤l.length;omega
   ·show l.length-(i+1)<l.length-i;omega
   ·exact .cons (CEnt.int (by omega)) .nil
   ·have ht:=guess_take (l:=l) (i:=i) (by omega)
    unfold stepP at ht
    rw [show oidK=[49,46,51,46,57,57,57,57,46,49,46,49] from rfl,show oidS=[49,46,51,46,57,57,57,57,46,49,46,50] from rfl,show oidN=[49,46,51,46,57,57,57,57,46,49,46,51] from rfl] at ht
    first
    |(rw [if_pos h53] at ht;rw [ht];refine .same (.blk rfl (fun j hj=>?_) .nil);have:=sF_k (guessP (l.take i)) (idxW (l.getD i ([],[])).2) j hj;exact this)
    |(rw [if_neg h53,if_pos h55] at ht;rw [ht];exact .same (.blk rfl (fun j hj=>sF_s _ _ j hj) .nil))
    |(rw [if_neg h53,if_neg h55,if_pos h57] at ht;rw [ht];exact .same (.blk rfl (fun j hj=>sF_n _ _ j hj) .nil))
    |(rw [if_neg h53,if_neg h55,if_neg h57] at ht;rw [ht];exact .same (.same .nil))
  refine jcg ?_;refine jq (jrfa 1 1 false) ?_;refine jqo jrdo ?_;refine jq (jrfa 2 1 false) ?_
  refine jqm (jmst 1 ?_)
  refine jN ?_
  refine jbn (jbn (jtn ?_))
  refine jcg ?_;refine jq jra ?_;refine jq jrm ?_;refine jN ?_;refine jtn ?_
  refine jlend (i+1) ?_ ?_ (h5:=?_) (h7:=?_)
  ·show i+1≤l.length;omega
  ·show l.length-(i+1)<l.length-i;omega
  ·exact .cons (CEnt.int (by omega)) .nil
  ·have ht:=guess_take (l:=l) (i:=i) (by omega)
   unfold stepP at ht
   rw [show oidK=[49,46,51,46,57,57,57,57,46,49,46,49] from rfl,show oidS=[49,46,51,46,57,57,57,57,46,49,46,50] from rfl,show oidN=[49,46,51,46,57,57,57,57,46,49,46,51] from rfl] at ht
   first
   |(rw [if_pos h53] at ht;rw [ht];refine .same (.blk rfl (fun j hj=>?_) .nil);have:=sF_k (guessP (l.take i)) (idxW (l.getD i ([],[])).2) j hj;exact this)
   |(rw [if_neg h53,if_pos h55] at ht;rw [ht];exact .same (.blk rfl (fun j hj=>sF_s _ _ j hj) .nil))
   |(rw [if_neg h53,if_neg h55,if_pos h57] at ht;rw [ht];exact .same (.blk rfl (fun j hj=>sF_n _ _ j hj) .nil))
   |(rw [if_neg h53,if_neg h55,if_neg h57] at ht;rw [ht];exact .same (.same .nil))
end
section
variable {gs:List Nat} [OkG gs]
open Go.RowKit

set_option maxHeartbeats 2000000 in
theorem rof_ac09 {gs:List Nat} (l:List P2) (hl:l.length≤1000000):ACp gs Tryz.prog 79 [partsC l] (.tup 2 (fl [subjC (ofP l).1,.c (.bool (decide ((ofP l).2=0)))])):=by
 refine ac_of 69 Tryz.func79 rfl rfl rfl (fun al w0 F0 St0=>?_)
 refine jcr ?_
 refine jqe (jeal (n:=3) zr26 rfl fun p1=>?_)
 refine jq jrm ?_;refine jN ?_;refine jcs ?_;refine jcr ?_;refine jq jrm ?_;refine jN ?_;refine jB ?_;refine l_loop (α:=Nat) [3,4,5,6,7,8,9,10,11,12,13,14,15,16,17,18,19,20,21,22,23,24,25,26,27,28,29,30,31,32,33,34,35,36,37,38,39,40,41,42,43,44,45,46,47,48,49,50,51,52,53,54,55,56,57,58,59,60,61,62,63,64,65,66,67] (fun k=>[(4,.c (.int .i64 (k:Nat)))]) (fun k=>[(p1,.blk 3 fun _=>.top)]) (fun k=>1≤k∧k≤6∧∀ q:Int,1≤q→q<(k:Nat)→¬ isKindP l q) (fun k=>6-k) (1) ?_ (fun _=>rfl) ?_ ?_ ?_
 ·exact ⟨by omega,by omega,fun q h1 h2=>by omega⟩
 ·exact .cons cZ .nil
 ·exact .blk rfl (fun _ _=>CEnt.top _) .nil
 ·rintro k ⟨hk1,hk6,hno⟩
  refine jcs ?_;refine jcr ?_;refine jq jrm ?_;refine jq jrc ?_;refine jN ?_;refine jcc (fun h41=>?_) fun h41=>?_
  rotate_left
  ·refine jX (jte (jte (jbx (jtn ?_))))
   refine jcr ?_;refine jq (rd_build (n:=3) rfl zr26 pl26 rfl rfl) ?_
   refine jqm (jmst 3 ?_)
   refine jq jrm ?_;refine jN ?_
   refine jR (jrt (hres:=res_2 rfl (javA 3) javt) (hv:=?_))
   rw [no_kindP (fun q h1 h5=>hno q h1 (by omega))]
   exact CEnt.tup2 (CEnt.agg3 cZ cZ cZ) cZ
  refine jS (jtn ?_)
  refine jcs ?_;refine jB ?_;refine jcr ?_;refine jq jrm ?_;refine jq (rd_build (n:=3) rfl zr26 pl26 rfl rfl) ?_
  refine jqe (jeal (n:=3) zr26 rfl fun p2=>?_)
  refine jqm (jmst 3 ?_)
  refine jN ?_;refine jcs ?_;refine jcr ?_;refine jq jrm ?_;refine jq jrl ?_;refine jq jrc ?_;refine jN ?_;refine jcc (fun h43=>?_) fun h43=>?_
  rotate_left
  ·refine jS (jtn ?_)
   refine jcs ?_;refine jcr ?_;refine jq jrm ?_;refine jq jrc ?_;refine jq jrm ?_;refine jqsp 28 (fun g46=>?_) fun g46=>?_
   rotate_left
   ·refine jqs ?_;refine jqs ?_;refine jqs ?_;refine jq jrpF ?_;refine jN ?_;refine jcF ?_
    refine jS (jtn ?_)
    refine jcs ?_;refine jcr ?_;refine seq_ent (blk_ent 1 (m:=3) (F:=sF (asKindP l k)) rfl (by decide) (fun _=>rfl) (fun j hj=>by rcases j with _|_|_|j <;> first|exact cZ|omega|(refine CEnt.strL ?_;unfold asKindP;simp_all;done)|(refine CEnt.strL ?_;unfold asKindP;simp;omega))) ?_;refine jqo (jrdoA 3) ?_
    refine jqe (jecP (rright_ac (asKindP l k)) ?_)
    refine jq jrn ?_;refine jN ?_;refine jcc (fun h49=>?_) fun h49=>?_
    ·refine jX (jte (jbx (jtn ?_)))
     refine jcg ?_;refine jq jrm ?_;refine jq jra ?_;refine jq jrm ?_;refine jN ?_;refine jtn ?_
     refine jlend (k+1) ?_ ?_ (h5:=?_) (h7:=?_)
     ·refine ⟨by omega,by omega,fun q h1 h2=>?_⟩
      by_cases hq:q=(k:Int)
      ·rw [hq]
       exact fun hi=>absurd hi.1 (by simpa using h49)
      ·exact hno q h1 (by omega)
     ·show 6-(k+1)<6-k;omega
     ·exact .cons (CEnt.int (by omega)) .nil
     ·exact .same .nil
    refine jS (jtn ?_)
    have hr:rightS (asKindP l k)=true:=by simpa using h49
    refine jcr ?_;refine jqo (jrdoA 3) ?_
    refine jqe (jecP (rparts_ac (asKindP l k) hr) ?_)
    refine jq jrm ?_;refine jN ?_
    obtain ⟨W,hW⟩:∃ W,W=partsS (asKindP l k):=⟨_,rfl⟩
    rw [← hW]
    refine jcr ?_;refine jq jrm ?_;refine jq jrl ?_;refine jq jrm ?_;refine jq jrl ?_;refine jq jrc ?_;refine jq jrm ?_;refine jN ?_;refine jcs ?_;refine jcr ?_;refine jq jrm ?_;refine jN ?_;refine jB ?_;refine l_loop (α:=Nat×Bool) [7,8,48,49,50,51,52,53,54,55,56,57,58,59,60,61,62,63,64,65] (fun (i,b)=>[(7,.c (.bool b)),(8,.c (.int .i64 (i:Nat)))]) (fun (i,b)=>[(p1,.blk 3 fun _=>.top),(p2,.blk 3 (sF (asKindP l k)))]) (fun (i,b)=>i≤W.length∧(b=true→W.length=l.length∧W.take i=l.take i)∧(b=false→W≠l)) (fun p=>W.length-p.1) ((0,decide (W.length=l.length))) ?_ (fun _=>rfl) ?_ ?_ ?_
    ·exact ⟨Nat.zero_le _,fun h=>⟨by simpa using h,by simp⟩,fun h e=>by rw [e] at h;simp at h⟩
    ·exact .cons (CEnt.bool (decide_eq_decide.2 (by omega))) (.cons cZ .nil)
    ·exact .same (.same .nil)
    ·rintro ⟨i,b⟩ ⟨hi,hw1,hw2⟩
     refine jcs ?_;refine jcr ?_;refine jq jrm ?_;refine jq jrm ?_;refine jqsp 49 (fun g54=>?_) fun g54=>?_
     rotate_left
     ·refine jqs ?_;refine jqs ?_;refine jqs ?_;refine jqs ?_;refine jq jrpF ?_;refine jN ?_;refine jcF ?_
      refine jX (jte (jte (jbx (jtn ?_))))
      refine jcr ?_;refine jq jrm ?_;refine jN ?_;refine jcc (fun h57=>?_) fun h57=>?_
      ·refine jcr ?_;refine jqo (jrdoA 3) ?_
       refine jqm (jmst 3 ?_)
       refine jq jrm ?_;refine jN ?_
       refine jR (jbr (jtr (jtr (jbr (jtr (jrt (hres:=res_2 rfl (javA 3) javt) (hv:=?_)))))))
       have hbt:b=true:=by exact h57
       have hWl:W=l:=by
        obtain ⟨hl1,hl2⟩:=hw1 hbt
        have hle:W.length≤i:=by omega
        rw [List.take_of_length_le (by omega),List.take_of_length_le (by omega)] at hl2
        exact hl2
       have hk:isKindP l k:=⟨hr,by rw [← hW];exact hWl⟩
       rw [kind_parts hk]
       exact CEnt.tup2 (CEnt.agg3 cZ cZ cZ) cZ
      refine jS (jbn (jtn ?_))
      refine jcg ?_;refine jq jrm ?_;refine jq jra ?_;refine jq jrm ?_;refine jN ?_;refine jtn ?_
      refine jlend (k+1) ?_ ?_ (h5:=?_) (h7:=?_)
      ·refine ⟨by omega,by omega,fun q h1 h2=>?_⟩
       by_cases hq:q=(k:Int)
       ·rw [hq]
        (rintro ⟨_,hi⟩;rw [← hW] at hi;exact hw2 (by simpa using h57) hi)
       ·exact hno q h1 (by omega)
      ·show 6-(k+1)<6-k;omega
      ·exact .cons (CEnt.int (by omega)) .nil
      ·exact .same .nil
     refine jq jrm ?_;refine jq jrm ?_;refine jq jrl ?_;refine jq jrc ?_;refine jq jrpT ?_;refine jN ?_;refine jcc (fun h54=>?_) fun h54=>?_
     ·refine jS (jtn ?_)
      refine jcs ?_;refine jB ?_
      obtain ⟨hl1,hl2⟩:=hw1 g54
      refine jcd (.rd 0 (.rd 1 (.rd 2 (.rd 3 (.rd 4 (.rd 5 (.rd 6 (.rd 7 (.rd 8 (.rd 9 .done)))))))))) ?_;refine jyq jrm ?_;refine jyq jrm ?_;refine jyq jri ?_;refine jyq (jrdrA 2) ?_;refine jyq jrm ?_;refine jyq jrm ?_;refine jyq jri ?_;refine jyq (jrdrA 2) ?_;refine jyq (rd_eqAgg rfl rfl rfl Tryz.underlying91 (by kernel_rfl) (by kernel_rfl) (.str Tryz.underlying9 (by decide) rfl rfl (.str Tryz.underlying9 (by decide) rfl rfl .nil)) rfl) ?_;refine jyq jrm ?_;refine jyd ?_
      refine jbn (jtn ?_)
      refine jcg ?_;refine jq jrm ?_;refine jq jra ?_;refine jq jrm ?_;refine jN ?_;refine jtn ?_
      refine jlend ((i+1,decide (W.getD i ([],[])=l.getD i ([],[])))) ?_ ?_ (h5:=?_) (h7:=?_)
      ·refine ⟨by omega,fun hb=>⟨hl1,?_⟩,fun hb e=>?_⟩
       ·have hb:W.getD i ([],[])=l.getD i ([],[]):=by simpa using hb
        rw [p2_getD (by omega),p2_getD (by omega)] at hb
        rw [List.take_succ_eq_append_getElem (show i<W.length by omega),List.take_succ_eq_append_getElem (show i<l.length by omega),hl2,hb]
       ·rw [e] at hb;simp at hb
      ·show W.length-(i+1)<W.length-i;omega
      ·exact .cons (CEnt.bool (decide_eq_decide.2 ⟨fun h=>Prod.ext (ba_inj.1 h.1) (ba_inj.1 h.2.1),fun h=>⟨by rw [h],by rw [h],trivial⟩⟩)) (.cons (CEnt.int (by omega)) .nil)
      ·exact .same (.same .nil)
     refine jX (jte (jte (jbx (jtn ?_))))
     refine jcr ?_;refine jq jrm ?_;refine jN ?_;refine jcc (fun h57=>?_) fun h57=>?_
     ·refine jcr ?_;refine jqo (jrdoA 3) ?_
      refine jqm (jmst 3 ?_)
      refine jq jrm ?_;refine jN ?_
      refine jR (jbr (jtr (jtr (jbr (jtr (jrt (hres:=res_2 rfl (javA 3) javt) (hv:=?_)))))))
      have hbt:b=true:=by exact h57
      have hWl:W=l:=by
       obtain ⟨hl1,hl2⟩:=hw1 hbt
       have hle:W.length≤i:=by omega
       rw [List.take_of_length_le (by omega),List.take_of_length_le (by omega)] at hl2
       exact hl2
      have hk:isKindP l k:=⟨hr,by rw [← hW];exact hWl⟩
      rw [kind_parts hk]
      exact CEnt.tup2 (CEnt.agg3 cZ cZ cZ) cZ
     refine jS (jbn (jtn ?_))
     refine jcg ?_;refine jq jrm ?_;refine jq jra ?_;refine jq jrm ?_;refine jN ?_;refine jtn ?_
     refine jlend (k+1) ?_ ?_ (h5:=?_) (h7:=?_)
     ·refine ⟨by omega,by omega,fun q h1 h2=>?_⟩
      by_cases hq:q=(k:Int)
      ·rw [hq]
       (rintro ⟨_,hi⟩;rw [← hW] at hi;exact hw2 (by simpa using h57) hi)
      ·exact hno q h1 (by omega)
     ·show 6-(k+1)<6-k;omega
     ·exact .cons (CEnt.int (by omega)) .nil
     ·exact .same .nil
   refine jq jrm ?_;refine jq jrl ?_;refine jq jrc ?_;refine jq jrpT ?_;refine jN ?_;refine jcc (fun h46=>?_) fun h46=>?_
   rotate_left
   ·refine jS (jtn ?_)
    refine jcs ?_;refine jcr ?_;refine seq_ent (blk_ent 1 (m:=3) (F:=sF (asKindP l k)) rfl (by decide) (fun _=>rfl) (fun j hj=>by rcases j with _|_|_|j <;> first|exact cZ|omega|(refine CEnt.strL ?_;unfold asKindP;simp_all;done)|(refine CEnt.strL ?_;unfold asKindP;simp;omega))) ?_;refine jqo (jrdoA 3) ?_
    refine jqe (jecP (rright_ac (asKindP l k)) ?_)
    refine jq jrn ?_;refine jN ?_;refine jcc (fun h49=>?_) fun h49=>?_
    ·refine jX (jte (jbx (jtn ?_)))
     refine jcg ?_;refine jq jrm ?_;refine jq jra ?_;refine jq jrm ?_;refine jN ?_;refine jtn ?_
     refine jlend (k+1) ?_ ?_ (h5:=?_) (h7:=?_)
     ·refine ⟨by omega,by omega,fun q h1 h2=>?_⟩
      by_cases hq:q=(k:Int)
      ·rw [hq]
       exact fun hi=>absurd hi.1 (by simpa using h49)
      ·exact hno q h1 (by omega)
     ·show 6-(k+1)<6-k;omega
     ·exact .cons (CEnt.int (by omega)) .nil
     ·exact .same .nil
    refine jS (jtn ?_)
    have hr:rightS (asKindP l k)=true:=by simpa using h49
    refine jcr ?_;refine jqo (jrdoA 3) ?_
    refine jqe (jecP (rparts_ac (asKindP l k) hr) ?_)
    refine jq jrm ?_;refine jN ?_
    obtain ⟨W,hW⟩:∃ W,W=partsS (asKindP l k):=⟨_,rfl⟩
    rw [← hW]
    refine jcr ?_;refine jq jrm ?_;refine jq jrl ?_;refine jq jrm ?_;refine jq jrl ?_;refine jq jrc ?_;refine jq jrm ?_;refine jN ?_;refine jcs ?_;refine jcr ?_;refine jq jrm ?_;refine jN ?_;refine jB ?_;refine l_loop (α:=Nat×Bool) [7,8,48,49,50,51,52,53,54,55,56,57,58,59,60,61,62,63,64,65] (fun (i,b)=>[(7,.c (.bool b)),(8,.c (.int .i64 (i:Nat)))]) (fun (i,b)=>[(p1,.blk 3 fun _=>.top),(p2,.blk 3 (sF (asKindP l k)))]) (fun (i,b)=>i≤W.length∧(b=true→W.length=l.length∧W.take i=l.take i)∧(b=false→W≠l)) (fun p=>W.length-p.1) ((0,decide (W.length=l.length))) ?_ (fun _=>rfl) ?_ ?_ ?_
    ·exact ⟨Nat.zero_le _,fun h=>⟨by simpa using h,by simp⟩,fun h e=>by rw [e] at h;simp at h⟩
    ·exact .cons (CEnt.bool (decide_eq_decide.2 (by omega))) (.cons cZ .nil)
    ·exact .same (.same .nil)
    ·rintro ⟨i,b⟩ ⟨hi,hw1,hw2⟩
     refine jcs ?_;refine jcr ?_;refine jq jrm ?_;refine jq jrm ?_;refine jqsp 49 (fun g54=>?_) fun g54=>?_
     rotate_left
     ·refine jqs ?_;refine jqs ?_;refine jqs ?_;refine jqs ?_;refine jq jrpF ?_;refine jN ?_;refine jcF ?_
      refine jX (jte (jte (jbx (jtn ?_))))
      refine jcr ?_;refine jq jrm ?_;refine jN ?_;refine jcc (fun h57=>?_) fun h57=>?_
      ·refine jcr ?_;refine jqo (jrdoA 3) ?_
       refine jqm (jmst 3 ?_)
       refine jq jrm ?_;refine jN ?_
       refine jR (jbr (jtr (jtr (jbr (jtr (jrt (hres:=res_2 rfl (javA 3) javt) (hv:=?_)))))))
       have hbt:b=true:=by exact h57
       have hWl:W=l:=by
        obtain ⟨hl1,hl2⟩:=hw1 hbt
        have hle:W.length≤i:=by omega
        rw [List.take_of_length_le (by omega),List.take_of_length_le (by omega)] at hl2
        exact hl2
       have hk:isKindP l k:=⟨hr,by rw [← hW];exact hWl⟩
       rw [kind_parts hk]
       exact CEnt.tup2 (CEnt.agg3 cZ cZ cZ) cZ
      refine jS (jbn (jtn ?_))
      refine jcg ?_;refine jq jrm ?_;refine jq jra ?_;refine jq jrm ?_;refine jN ?_;refine jtn ?_
      refine jlend (k+1) ?_ ?_ (h5:=?_) (h7:=?_)
      ·refine ⟨by omega,by omega,fun q h1 h2=>?_⟩
       by_cases hq:q=(k:Int)
       ·rw [hq]
        (rintro ⟨_,hi⟩;rw [← hW] at hi;exact hw2 (by simpa using h57) hi)
       ·exact hno q h1 (by omega)
      ·show 6-(k+1)<6-k;omega
      ·exact .cons (CEnt.int (by omega)) .nil
      ·exact .same .nil
     refine jq jrm ?_;refine jq jrm ?_;refine jq jrl ?_;refine jq jrc ?_;refine jq jrpT ?_;refine jN ?_;refine jcc (fun h54=>?_) fun h54=>?_
     ·refine jS (jtn ?_)
      refine jcs ?_;refine jB ?_
      obtain ⟨hl1,hl2⟩:=hw1 g54
      refine jcd (.rd 0 (.rd 1 (.rd 2 (.rd 3 (.rd 4 (.rd 5 (.rd 6 (.rd 7 (.rd 8 (.rd 9 .done)))))))))) ?_;refine jyq jrm ?_;refine jyq jrm ?_;refine jyq jri ?_;refine jyq (jrdrA 2) ?_;refine jyq jrm ?_;refine jyq jrm ?_;refine jyq jri ?_;refine jyq (jrdrA 2) ?_;refine jyq (rd_eqAgg rfl rfl rfl Tryz.underlying91 (by kernel_rfl) (by kernel_rfl) (.str Tryz.underlying9 (by decide) rfl rfl (.str Tryz.underlying9 (by decide) rfl rfl .nil)) rfl) ?_;refine jyq jrm ?_;refine jyd ?_
      refine jbn (jtn ?_)
      refine jcg ?_;refine jq jrm ?_;refine jq jra ?_;refine jq jrm ?_;refine jN ?_;refine jtn ?_
      refine jlend ((i+1,decide (W.getD i ([],[])=l.getD i ([],[])))) ?_ ?_ (h5:=?_) (h7:=?_)
      ·refine ⟨by omega,fun hb=>⟨hl1,?_⟩,fun hb e=>?_⟩
       ·have hb:W.getD i ([],[])=l.getD i ([],[]):=by simpa using hb
        rw [p2_getD (by omega),p2_getD (by omega)] at hb
        rw [List.take_succ_eq_append_getElem (show i<W.length by omega),List.take_succ_eq_append_getElem (show i<l.length by omega),hl2,hb]
       ·rw [e] at hb;simp at hb
      ·show W.length-(i+1)<W.length-i;omega
      ·exact .cons (CEnt.bool (decide_eq_decide.2 ⟨fun h=>Prod.ext (ba_inj.1 h.1) (ba_inj.1 h.2.1),fun h=>⟨by rw [h],by rw [h],trivial⟩⟩)) (.cons (CEnt.int (by omega)) .nil)
      ·exact .same (.same .nil)
     refine jX (jte (jte (jbx (jtn ?_))))
     refine jcr ?_;refine jq jrm ?_;refine jN ?_;refine jcc (fun h57=>?_) fun h57=>?_
     ·refine jcr ?_;refine jqo (jrdoA 3) ?_
      refine jqm (jmst 3 ?_)
      refine jq jrm ?_;refine jN ?_
      refine jR (jbr (jtr (jtr (jbr (jtr (jrt (hres:=res_2 rfl (javA 3) javt) (hv:=?_)))))))
      have hbt:b=true:=by exact h57
      have hWl:W=l:=by
       obtain ⟨hl1,hl2⟩:=hw1 hbt
       have hle:W.length≤i:=by omega
       rw [List.take_of_length_le (by omega),List.take_of_length_le (by omega)] at hl2
       exact hl2
      have hk:isKindP l k:=⟨hr,by rw [← hW];exact hWl⟩
      rw [kind_parts hk]
      exact CEnt.tup2 (CEnt.agg3 cZ cZ cZ) cZ
     refine jS (jbn (jtn ?_))
     refine jcg ?_;refine jq jrm ?_;refine jq jra ?_;refine jq jrm ?_;refine jN ?_;refine jtn ?_
     refine jlend (k+1) ?_ ?_ (h5:=?_) (h7:=?_)
     ·refine ⟨by omega,by omega,fun q h1 h2=>?_⟩
      by_cases hq:q=(k:Int)
      ·rw [hq]
       (rintro ⟨_,hi⟩;rw [← hW] at hi;exact hw2 (by simpa using h57) hi)
      ·exact hno q h1 (by omega)
     ·show 6-(k+1)<6-k;omega
     ·exact .cons (CEnt.int (by omega)) .nil
     ·exact .same .nil
   refine jcg ?_;refine jq jrm ?_;refine jq (jri (i:=1)) ?_;refine jq (jrfa 1 1 false) ?_;refine jq jrdr ?_;refine jq (jrfa 1 1 false) ?_
   refine jqm (jmst 1 ?_)
   refine jN ?_;refine jtn ?_;refine jcs ?_;refine jcr ?_;refine seq_ent (blk_ent 1 (m:=3) (F:=sF (asKindP l k)) rfl (by decide) (fun _=>rfl) (fun j hj=>by rcases j with _|_|_|j <;> first|exact cZ|omega|(refine CEnt.strL ?_;unfold asKindP;simp_all;done)|(refine CEnt.strL ?_;unfold asKindP;simp;omega))) ?_;refine jqo (jrdoA 3) ?_
   refine jqe (jecP (rright_ac (asKindP l k)) ?_)
   refine jq jrn ?_;refine jN ?_;refine jcc (fun h49=>?_) fun h49=>?_
   ·refine jX (jte (jbx (jtn ?_)))
    refine jcg ?_;refine jq jrm ?_;refine jq jra ?_;refine jq jrm ?_;refine jN ?_;refine jtn ?_
    refine jlend (k+1) ?_ ?_ (h5:=?_) (h7:=?_)
    ·refine ⟨by omega,by omega,fun q h1 h2=>?_⟩
     by_cases hq:q=(k:Int)
     ·rw [hq]
      exact fun hi=>absurd hi.1 (by simpa using h49)
     ·exact hno q h1 (by omega)
    ·show 6-(k+1)<6-k;omega
    ·exact .cons (CEnt.int (by omega)) .nil
    ·exact .same .nil
   refine jS (jtn ?_)
   have hr:rightS (asKindP l k)=true:=by simpa using h49
   refine jcr ?_;refine jqo (jrdoA 3) ?_
   refine jqe (jecP (rparts_ac (asKindP l k) hr) ?_)
   refine jq jrm ?_;refine jN ?_
   obtain ⟨W,hW⟩:∃ W,W=partsS (asKindP l k):=⟨_,rfl⟩
   rw [← hW]
   refine jcr ?_;refine jq jrm ?_;refine jq jrl ?_;refine jq jrm ?_;refine jq jrl ?_;refine jq jrc ?_;refine jq jrm ?_;refine jN ?_;refine jcs ?_;refine jcr ?_;refine jq jrm ?_;refine jN ?_;refine jB ?_;refine l_loop (α:=Nat×Bool) [7,8,48,49,50,51,52,53,54,55,56,57,58,59,60,61,62,63,64,65] (fun (i,b)=>[(7,.c (.bool b)),(8,.c (.int .i64 (i:Nat)))]) (fun (i,b)=>[(p1,.blk 3 fun _=>.top),(p2,.blk 3 (sF (asKindP l k)))]) (fun (i,b)=>i≤W.length∧(b=true→W.length=l.length∧W.take i=l.take i)∧(b=false→W≠l)) (fun p=>W.length-p.1) ((0,decide (W.length=l.length))) ?_ (fun _=>rfl) ?_ ?_ ?_
   ·exact ⟨Nat.zero_le _,fun h=>⟨by simpa using h,by simp⟩,fun h e=>by rw [e] at h;simp at h⟩
   ·exact .cons (CEnt.bool (decide_eq_decide.2 (by omega))) (.cons cZ .nil)
   ·exact .same (.same .nil)
   ·rintro ⟨i,b⟩ ⟨hi,hw1,hw2⟩
    refine jcs ?_;refine jcr ?_;refine jq jrm ?_;refine jq jrm ?_;refine jqsp 49 (fun g54=>?_) fun g54=>?_
    rotate_left
    ·refine jqs ?_;refine jqs ?_;refine jqs ?_;refine jqs ?_;refine jq jrpF ?_;refine jN ?_;refine jcF ?_
     refine jX (jte (jte (jbx (jtn ?_))))
     refine jcr ?_;refine jq jrm ?_;refine jN ?_;refine jcc (fun h57=>?_) fun h57=>?_
     ·refine jcr ?_;refine jqo (jrdoA 3) ?_
      refine jqm (jmst 3 ?_)
      refine jq jrm ?_;refine jN ?_
      refine jR (jbr (jtr (jtr (jbr (jtr (jrt (hres:=res_2 rfl (javA 3) javt) (hv:=?_)))))))
      have hbt:b=true:=by exact h57
      have hWl:W=l:=by
       obtain ⟨hl1,hl2⟩:=hw1 hbt
       have hle:W.length≤i:=by omega
       rw [List.take_of_length_le (by omega),List.take_of_length_le (by omega)] at hl2
       exact hl2
      have hk:isKindP l k:=⟨hr,by rw [← hW];exact hWl⟩
      rw [kind_parts hk]
      exact CEnt.tup2 (CEnt.agg3 cZ cZ cZ) cZ
     refine jS (jbn (jtn ?_))
     refine jcg ?_;refine jq jrm ?_;refine jq jra ?_;refine jq jrm ?_;refine jN ?_;refine jtn ?_
     refine jlend (k+1) ?_ ?_ (h5:=?_) (h7:=?_)
     ·refine ⟨by omega,by omega,fun q h1 h2=>?_⟩
      by_cases hq:q=(k:Int)
      ·rw [hq]
       (rintro ⟨_,hi⟩;rw [← hW] at hi;exact hw2 (by simpa using h57) hi)
      ·exact hno q h1 (by omega)
     ·show 6-(k+1)<6-k;omega
     ·exact .cons (CEnt.int (by omega)) .nil
     ·exact .same .nil
    refine jq jrm ?_;refine jq jrm ?_;refine jq jrl ?_;refine jq jrc ?_;refine jq jrpT ?_;refine jN ?_;refine jcc (fun h54=>?_) fun h54=>?_
    ·refine jS (jtn ?_)
     refine jcs ?_;refine jB ?_
     obtain ⟨hl1,hl2⟩:=hw1 g54
     refine jcd (.rd 0 (.rd 1 (.rd 2 (.rd 3 (.rd 4 (.rd 5 (.rd 6 (.rd 7 (.rd 8 (.rd 9 .done)))))))))) ?_;refine jyq jrm ?_;refine jyq jrm ?_;refine jyq jri ?_;refine jyq (jrdrA 2) ?_;refine jyq jrm ?_;refine jyq jrm ?_;refine jyq jri ?_;refine jyq (jrdrA 2) ?_;refine jyq (rd_eqAgg rfl rfl rfl Tryz.underlying91 (by kernel_rfl) (by kernel_rfl) (.str Tryz.underlying9 (by decide) rfl rfl (.str Tryz.underlying9 (by decide) rfl rfl .nil)) rfl) ?_;refine jyq jrm ?_;refine jyd ?_
     refine jbn (jtn ?_)
     refine jcg ?_;refine jq jrm ?_;refine jq jra ?_;refine jq jrm ?_;refine jN ?_;refine jtn ?_
     refine jlend ((i+1,decide (W.getD i ([],[])=l.getD i ([],[])))) ?_ ?_ (h5:=?_) (h7:=?_)
     ·refine ⟨by omega,fun hb=>⟨hl1,?_⟩,fun hb e=>?_⟩
      ·have hb:W.getD i ([],[])=l.getD i ([],[]):=by simpa using hb
       rw [p2_getD (by omega),p2_getD (by omega)] at hb
       rw [List.take_succ_eq_append_getElem (show i<W.length by omega),List.take_succ_eq_append_getElem (show i<l.length by omega),hl2,hb]
      ·rw [e] at hb;simp at hb
     ·show W.length-(i+1)<W.length-i;omega
     ·exact .cons (CEnt.bool (decide_eq_decide.2 ⟨fun h=>Prod.ext (ba_inj.1 h.1) (ba_inj.1 h.2.1),fun h=>⟨by rw [h],by rw [h],trivial⟩⟩)) (.cons (CEnt.int (by omega)) .nil)
     ·exact .same (.same .nil)
    refine jX (jte (jte (jbx (jtn ?_))))
    refine jcr ?_;refine jq jrm ?_;refine jN ?_;refine jcc (fun h57=>?_) fun h57=>?_
    ·refine jcr ?_;refine jqo (jrdoA 3) ?_
     refine jqm (jmst 3 ?_)
     refine jq jrm ?_;refine jN ?_
     refine jR (jbr (jtr (jtr (jbr (jtr (jrt (hres:=res_2 rfl (javA 3) javt) (hv:=?_)))))))
     have hbt:b=true:=by exact h57
     have hWl:W=l:=by
      obtain ⟨hl1,hl2⟩:=hw1 hbt
      have hle:W.length≤i:=by omega
      rw [List.take_of_length_le (by omega),List.take_of_length_le (by omega)] at hl2
      exact hl2
     have hk:isKindP l k:=⟨hr,by rw [← hW];exact hWl⟩
     rw [kind_parts hk]
     exact CEnt.tup2 (CEnt.agg3 cZ cZ cZ) cZ
    refine jS (jbn (jtn ?_))
    refine jcg ?_;refine jq jrm ?_;refine jq jra ?_;refine jq jrm ?_;refine jN ?_;refine jtn ?_
    refine jlend (k+1) ?_ ?_ (h5:=?_) (h7:=?_)
    ·refine ⟨by omega,by omega,fun q h1 h2=>?_⟩
     by_cases hq:q=(k:Int)
     ·rw [hq]
      (rintro ⟨_,hi⟩;rw [← hW] at hi;exact hw2 (by simpa using h57) hi)
     ·exact hno q h1 (by omega)
    ·show 6-(k+1)<6-k;omega
    ·exact .cons (CEnt.int (by omega)) .nil
    ·exact .same .nil
  refine jcg ?_;refine jq jrm ?_;refine jq jrm ?_;refine jq jrl ?_;refine jq jra ?_;refine jq (jri (i:=(l.length-1)) (hz:=by omega)) ?_;refine jq (jrfa 1 1 false) ?_;refine jq jrdr ?_;refine jq (jrfa 2 1 false) ?_
  refine jqm (jmst 1 ?_)
  refine jN ?_;refine jtn ?_;refine jcs ?_;refine jcr ?_;refine jq jrm ?_;refine jq jrc ?_;refine jq jrm ?_;refine jqsp 28 (fun g46=>?_) fun g46=>?_
  rotate_left
  ·refine jqs ?_;refine jqs ?_;refine jqs ?_;refine jq jrpF ?_;refine jN ?_;refine jcF ?_
   refine jS (jtn ?_)
   refine jcs ?_;refine jcr ?_;refine seq_ent (blk_ent 1 (m:=3) (F:=sF (asKindP l k)) rfl (by decide) (fun _=>rfl) (fun j hj=>by rcases j with _|_|_|j <;> first|exact cZ|omega|(refine CEnt.strL ?_;unfold asKindP;simp_all;done)|(refine CEnt.strL ?_;unfold asKindP;simp;omega))) ?_;refine jqo (jrdoA 3) ?_
   refine jqe (jecP (rright_ac (asKindP l k)) ?_)
   refine jq jrn ?_;refine jN ?_;refine jcc (fun h49=>?_) fun h49=>?_
   ·refine jX (jte (jbx (jtn ?_)))
    refine jcg ?_;refine jq jrm ?_;refine jq jra ?_;refine jq jrm ?_;refine jN ?_;refine jtn ?_
    refine jlend (k+1) ?_ ?_ (h5:=?_) (h7:=?_)
    ·refine ⟨by omega,by omega,fun q h1 h2=>?_⟩
     by_cases hq:q=(k:Int)
     ·rw [hq]
      exact fun hi=>absurd hi.1 (by simpa using h49)
     ·exact hno q h1 (by omega)
    ·show 6-(k+1)<6-k;omega
    ·exact .cons (CEnt.int (by omega)) .nil
    ·exact .same .nil
   refine jS (jtn ?_)
   have hr:rightS (asKindP l k)=true:=by simpa using h49
   refine jcr ?_;refine jqo (jrdoA 3) ?_
   refine jqe (jecP (rparts_ac (asKindP l k) hr) ?_)
   refine jq jrm ?_;refine jN ?_
   obtain ⟨W,hW⟩:∃ W,W=partsS (asKindP l k):=⟨_,rfl⟩
   rw [← hW]
   refine jcr ?_;refine jq jrm ?_;refine jq jrl ?_;refine jq jrm ?_;refine jq jrl ?_;refine jq jrc ?_;refine jq jrm ?_;refine jN ?_;refine jcs ?_;refine jcr ?_;refine jq jrm ?_;refine jN ?_;refine jB ?_;refine l_loop (α:=Nat×Bool) [7,8,48,49,50,51,52,53,54,55,56,57,58,59,60,61,62,63,64,65] (fun (i,b)=>[(7,.c (.bool b)),(8,.c (.int .i64 (i:Nat)))]) (fun (i,b)=>[(p1,.blk 3 fun _=>.top),(p2,.blk 3 (sF (asKindP l k)))]) (fun (i,b)=>i≤W.length∧(b=true→W.length=l.length∧W.take i=l.take i)∧(b=false→W≠l)) (fun p=>W.length-p.1) ((0,decide (W.length=l.length))) ?_ (fun _=>rfl) ?_ ?_ ?_
   ·exact ⟨Nat.zero_le _,fun h=>⟨by simpa using h,by simp⟩,fun h e=>by rw [e] at h;simp at h⟩
   ·exact .cons (CEnt.bool (decide_eq_decide.2 (by omega))) (.cons cZ .nil)
   ·exact .same (.same .nil)
   ·rintro ⟨i,b⟩ ⟨hi,hw1,hw2⟩
    refine jcs ?_;refine jcr ?_;refine jq jrm ?_;refine jq jrm ?_;refine jqsp 49 (fun g54=>?_) fun g54=>?_
    rotate_left
    ·refine jqs ?_;refine jqs ?_;refine jqs ?_;refine jqs ?_;refine jq jrpF ?_;refine jN ?_;refine jcF ?_
     refine jX (jte (jte (jbx (jtn ?_))))
     refine jcr ?_;refine jq jrm ?_;refine jN ?_;refine jcc (fun h57=>?_) fun h57=>?_
     ·refine jcr ?_;refine jqo (jrdoA 3) ?_
      refine jqm (jmst 3 ?_)
      refine jq jrm ?_;refine jN ?_
      refine jR (jbr (jtr (jtr (jbr (jtr (jrt (hres:=res_2 rfl (javA 3) javt) (hv:=?_)))))))
      have hbt:b=true:=by exact h57
      have hWl:W=l:=by
       obtain ⟨hl1,hl2⟩:=hw1 hbt
       have hle:W.length≤i:=by (simp_all;done)
       rw [List.take_of_length_le (by omega),List.take_of_length_le (by omega)] at hl2
       exact hl2
      have hk:isKindP l k:=⟨hr,by rw [← hW];exact hWl⟩
      rw [kind_parts hk]
      exact CEnt.tup2 (CEnt.agg3 cZ cZ cZ) cZ
     refine jS (jbn (jtn ?_))
     refine jcg ?_;refine jq jrm ?_;refine jq jra ?_;refine jq jrm ?_;refine jN ?_;refine jtn ?_
     refine jlend (k+1) ?_ ?_ (h5:=?_) (h7:=?_)
     ·refine ⟨by omega,by omega,fun q h1 h2=>?_⟩
      by_cases hq:q=(k:Int)
      ·rw [hq]
       (rintro ⟨_,hi⟩;rw [← hW] at hi;exact hw2 (by simpa using h57) hi)
      ·exact hno q h1 (by omega)
     ·show 6-(k+1)<6-k;omega
     ·exact .cons (CEnt.int (by omega)) .nil
     ·exact .same .nil
    refine jq jrm ?_;refine jq jrm ?_;refine jq jrl ?_;refine jq jrc ?_;refine jq jrpT ?_;refine jN ?_;refine jcc (fun h54=>?_) fun h54=>?_
    ·refine jS (jtn ?_)
     refine jcs ?_;refine jB ?_
     obtain ⟨hl1,hl2⟩:=hw1 g54
     refine jcd (.rd 0 (.rd 1 (.rd 2 (.rd 3 (.rd 4 (.rd 5 (.rd 6 (.rd 7 (.rd 8 (.rd 9 .done)))))))))) ?_;refine jyq jrm ?_;refine jyq jrm ?_;refine jyq jri ?_;refine jyq (jrdrA 2) ?_;refine jyq jrm ?_;refine jyq jrm ?_;refine jyq jri ?_;refine jyq (jrdrA 2) ?_;refine jyq (rd_eqAgg rfl rfl rfl Tryz.underlying91 (by kernel_rfl) (by kernel_rfl) (.str Tryz.underlying9 (by decide) rfl rfl (.str Tryz.underlying9 (by decide) rfl rfl .nil)) rfl) ?_;refine jyq jrm ?_;refine jyd ?_
     refine jbn (jtn ?_)
     refine jcg ?_;refine jq jrm ?_;refine jq jra ?_;refine jq jrm ?_;refine jN ?_;refine jtn ?_
     refine jlend ((i+1,decide (W.getD i ([],[])=l.getD i ([],[])))) ?_ ?_ (h5:=?_) (h7:=?_)
     ·refine ⟨by omega,fun hb=>⟨hl1,?_⟩,fun hb e=>?_⟩
      ·have hb:W.getD i ([],[])=l.getD i ([],[]):=by simpa using hb
       rw [p2_getD (by omega),p2_getD (by omega)] at hb
       rw [List.take_succ_eq_append_getElem (show i<W.length by omega),List.take_succ_eq_append_getElem (show i<l.length by omega),hl2,hb]
      ·rw [e] at hb;simp at hb
     ·show W.length-(i+1)<W.length-i;omega
     ·exact .cons (CEnt.bool (decide_eq_decide.2 ⟨fun h=>Prod.ext (ba_inj.1 h.1) (ba_inj.1 h.2.1),fun h=>⟨by rw [h],by rw [h],trivial⟩⟩)) (.cons (CEnt.int (by omega)) .nil)
     ·exact .same (.same .nil)
    refine jX (jte (jte (jbx (jtn ?_))))
    refine jcr ?_;refine jq jrm ?_;refine jN ?_;refine jcc (fun h57=>?_) fun h57=>?_
    ·refine jcr ?_;refine jqo (jrdoA 3) ?_
     refine jqm (jmst 3 ?_)
     refine jq jrm ?_;refine jN ?_
     refine jR (jbr (jtr (jtr (jbr (jtr (jrt (hres:=res_2 rfl (javA 3) javt) (hv:=?_)))))))
     have hbt:b=true:=by exact h57
     have hWl:W=l:=by
      obtain ⟨hl1,hl2⟩:=hw1 hbt
      have hle:W.length≤i:=by omega
      rw [List.take_of_length_le (by omega),List.take_of_length_le (by omega)] at hl2
      exact hl2
     have hk:isKindP l k:=⟨hr,by rw [← hW];exact hWl⟩
     rw [kind_parts hk]
     exact CEnt.tup2 (CEnt.agg3 cZ cZ cZ) cZ
    refine jS (jbn (jtn ?_))
    refine jcg ?_;refine jq jrm ?_;refine jq jra ?_;refine jq jrm ?_;refine jN ?_;refine jtn ?_
    refine jlend (k+1) ?_ ?_ (h5:=?_) (h7:=?_)
    ·refine ⟨by omega,by omega,fun q h1 h2=>?_⟩
     by_cases hq:q=(k:Int)
     ·rw [hq]
      (rintro ⟨_,hi⟩;rw [← hW] at hi;exact hw2 (by simpa using h57) hi)
     ·exact hno q h1 (by omega)
    ·show 6-(k+1)<6-k;omega
    ·exact .cons (CEnt.int (by omega)) .nil
    ·exact .same .nil
  refine jq jrm ?_;refine jq jrl ?_;refine jq jrc ?_;refine jq jrpT ?_;refine jN ?_;refine jcc (fun h46=>?_) fun h46=>?_
  rotate_left
  ·refine jS (jtn ?_)
   refine jcs ?_;refine jcr ?_;refine seq_ent (blk_ent 1 (m:=3) (F:=sF (asKindP l k)) rfl (by decide) (fun _=>rfl) (fun j hj=>by rcases j with _|_|_|j <;> first|exact cZ|omega|(refine CEnt.strL ?_;unfold asKindP;simp_all;done)|(refine CEnt.strL ?_;unfold asKindP;simp;omega))) ?_;refine jqo (jrdoA 3) ?_
   refine jqe (jecP (rright_ac (asKindP l k)) ?_)
   refine jq jrn ?_;refine jN ?_;refine jcc (fun h49=>?_) fun h49=>?_
   ·refine jX (jte (jbx (jtn ?_)))
    refine jcg ?_;refine jq jrm ?_;refine jq jra ?_;refine jq jrm ?_;refine jN ?_;refine jtn ?_
    refine jlend (k+1) ?_ ?_ (h5:=?_) (h7:=?_)
    ·refine ⟨by omega,by omega,fun q h1 h2=>?_⟩
     by_cases hq:q=(k:Int)
     ·rw [hq]
      exact fun hi=>absurd hi.1 (by simpa using h49)
     ·exact hno q h1 (by omega)
    ·show 6-(k+1)<6-k;omega
    ·exact .cons (CEnt.int (by omega)) .nil
    ·exact .same .nil
   refine jS (jtn ?_)
   have hr:rightS (asKindP l k)=true:=by simpa using h49
   refine jcr ?_;refine jqo (jrdoA 3) ?_
   refine jqe (jecP (rparts_ac (asKindP l k) hr) ?_)
   refine jq jrm ?_;refine jN ?_
   obtain ⟨W,hW⟩:∃ W,W=partsS (asKindP l k):=⟨_,rfl⟩
   rw [← hW]
   refine jcr ?_;refine jq jrm ?_;refine jq jrl ?_;refine jq jrm ?_;refine jq jrl ?_;refine jq jrc ?_;refine jq jrm ?_;refine jN ?_;refine jcs ?_;refine jcr ?_;refine jq jrm ?_;refine jN ?_;refine jB ?_;refine l_loop (α:=Nat×Bool) [7,8,48,49,50,51,52,53,54,55,56,57,58,59,60,61,62,63,64,65] (fun (i,b)=>[(7,.c (.bool b)),(8,.c (.int .i64 (i:Nat)))]) (fun (i,b)=>[(p1,.blk 3 fun _=>.top),(p2,.blk 3 (sF (asKindP l k)))]) (fun (i,b)=>i≤W.length∧(b=true→W.length=l.length∧W.take i=l.take i)∧(b=false→W≠l)) (fun p=>W.length-p.1) ((0,decide (W.length=l.length))) ?_ (fun _=>rfl) ?_ ?_ ?_
   ·exact ⟨Nat.zero_le _,fun h=>⟨by simpa using h,by simp⟩,fun h e=>by rw [e] at h;simp at h⟩
   ·exact .cons (CEnt.bool (decide_eq_decide.2 (by omega))) (.cons cZ .nil)
   ·exact .same (.same .nil)
   ·rintro ⟨i,b⟩ ⟨hi,hw1,hw2⟩
    refine jcs ?_;refine jcr ?_;refine jq jrm ?_;refine jq jrm ?_;refine jqsp 49 (fun g54=>?_) fun g54=>?_
    rotate_left
    ·refine jqs ?_;refine jqs ?_;refine jqs ?_;refine jqs ?_;refine jq jrpF ?_;refine jN ?_;refine jcF ?_
     refine jX (jte (jte (jbx (jtn ?_))))
     refine jcr ?_;refine jq jrm ?_;refine jN ?_;refine jcc (fun h57=>?_) fun h57=>?_
     ·refine jcr ?_;refine jqo (jrdoA 3) ?_
      refine jqm (jmst 3 ?_)
      refine jq jrm ?_;refine jN ?_
      refine jR (jbr (jtr (jtr (jbr (jtr (jrt (hres:=res_2 rfl (javA 3) javt) (hv:=?_)))))))
      have hbt:b=true:=by exact h57
      have hWl:W=l:=by
       obtain ⟨hl1,hl2⟩:=hw1 hbt
       have hle:W.length≤i:=by (simp_all;done)
       rw [List.take_of_length_le (by omega),List.take_of_length_le (by omega)] at hl2
       exact hl2
      have hk:isKindP l k:=⟨hr,by rw [← hW];exact hWl⟩
      rw [kind_parts hk]
      exact CEnt.tup2 (CEnt.agg3 cZ cZ cZ) cZ
     refine jS (jbn (jtn ?_))
     refine jcg ?_;refine jq jrm ?_;refine jq jra ?_;refine jq jrm ?_;refine jN ?_;refine jtn ?_
     refine jlend (k+1) ?_ ?_ (h5:=?_) (h7:=?_)
     ·refine ⟨by omega,by omega,fun q h1 h2=>?_⟩
      by_cases hq:q=(k:Int)
      ·rw [hq]
       (rintro ⟨_,hi⟩;rw [← hW] at hi;exact hw2 (by simpa using h57) hi)
      ·exact hno q h1 (by omega)
     ·show 6-(k+1)<6-k;omega
     ·exact .cons (CEnt.int (by omega)) .nil
     ·exact .same .nil
    refine jq jrm ?_;refine jq jrm ?_;refine jq jrl ?_;refine jq jrc ?_;refine jq jrpT ?_;refine jN ?_;refine jcc (fun h54=>?_) fun h54=>?_
    ·refine jS (jtn ?_)
     refine jcs ?_;refine jB ?_
     obtain ⟨hl1,hl2⟩:=hw1 g54
     refine jcd (.rd 0 (.rd 1 (.rd 2 (.rd 3 (.rd 4 (.rd 5 (.rd 6 (.rd 7 (.rd 8 (.rd 9 .done)))))))))) ?_;refine jyq jrm ?_;refine jyq jrm ?_;refine jyq jri ?_;refine jyq (jrdrA 2) ?_;refine jyq jrm ?_;refine jyq jrm ?_;refine jyq jri ?_;refine jyq (jrdrA 2) ?_;refine jyq (rd_eqAgg rfl rfl rfl Tryz.underlying91 (by kernel_rfl) (by kernel_rfl) (.str Tryz.underlying9 (by decide) rfl rfl (.str Tryz.underlying9 (by decide) rfl rfl .nil)) rfl) ?_;refine jyq jrm ?_;refine jyd ?_
     refine jbn (jtn ?_)
     refine jcg ?_;refine jq jrm ?_;refine jq jra ?_;refine jq jrm ?_;refine jN ?_;refine jtn ?_
     refine jlend ((i+1,decide (W.getD i ([],[])=l.getD i ([],[])))) ?_ ?_ (h5:=?_) (h7:=?_)
     ·refine ⟨by omega,fun hb=>⟨hl1,?_⟩,fun hb e=>?_⟩
      ·have hb:W.getD i ([],[])=l.getD i ([],[]):=by simpa using hb
       rw [p2_getD (by omega),p2_getD (by omega)] at hb
       rw [List.take_succ_eq_append_getElem (show i<W.length by omega),List.take_succ_eq_append_getElem (show i<l.length by omega),hl2,hb]
      ·rw [e] at hb;simp at hb
     ·show W.length-(i+1)<W.length-i;omega
     ·exact .cons (CEnt.bool (decide_eq_decide.2 ⟨fun h=>Prod.ext (ba_inj.1 h.1) (ba_inj.1 h.2.1),fun h=>⟨by rw [h],by rw [h],trivial⟩⟩)) (.cons (CEnt.int (by omega)) .nil)
     ·exact .same (.same .nil)
    refine jX (jte (jte (jbx (jtn ?_))))
    refine jcr ?_;refine jq jrm ?_;refine jN ?_;refine jcc (fun h57=>?_) fun h57=>?_
    ·refine jcr ?_;refine jqo (jrdoA 3) ?_
     refine jqm (jmst 3 ?_)
     refine jq jrm ?_;refine jN ?_
     refine jR (jbr (jtr (jtr (jbr (jtr (jrt (hres:=res_2 rfl (javA 3) javt) (hv:=?_)))))))
     have hbt:b=true:=by exact h57
     have hWl:W=l:=by
      obtain ⟨hl1,hl2⟩:=hw1 hbt
      have hle:W.length≤i:=by omega
      rw [List.take_of_length_le (by omega),List.take_of_length_le (by omega)] at hl2
      exact hl2
     have hk:isKindP l k:=⟨hr,by rw [← hW];exact hWl⟩
     rw [kind_parts hk]
     exact CEnt.tup2 (CEnt.agg3 cZ cZ cZ) cZ
    refine jS (jbn (jtn ?_))
    refine jcg ?_;refine jq jrm ?_;refine jq jra ?_;refine jq jrm ?_;refine jN ?_;refine jtn ?_
    refine jlend (k+1) ?_ ?_ (h5:=?_) (h7:=?_)
    ·refine ⟨by omega,by omega,fun q h1 h2=>?_⟩
     by_cases hq:q=(k:Int)
     ·rw [hq]
      (rintro ⟨_,hi⟩;rw [← hW] at hi;exact hw2 (by simpa using h57) hi)
     ·exact hno q h1 (by omega)
    ·show 6-(k+1)<6-k;omega
    ·exact .cons (CEnt.int (by omega)) .nil
    ·exact .same .nil
  refine jcg ?_;refine jq jrm ?_;refine jq (jri (i:=1)) ?_;refine jq (jrfa 1 1 false) ?_;refine jq jrdr ?_;refine jq (jrfa 1 1 false) ?_
  refine jqm (jmst 1 ?_)
  refine jN ?_;refine jtn ?_;refine jcs ?_;refine jcr ?_;refine seq_ent (blk_ent 1 (m:=3) (F:=sF (asKindP l k)) rfl (by decide) (fun _=>rfl) (fun j hj=>by rcases j with _|_|_|j <;> first|exact cZ|omega|(refine CEnt.strL ?_;unfold asKindP;simp_all;done)|(refine CEnt.strL ?_;unfold asKindP;simp;omega))) ?_;refine jqo (jrdoA 3) ?_
  refine jqe (jecP (rright_ac (asKindP l k)) ?_)
  refine jq jrn ?_;refine jN ?_;refine jcc (fun h49=>?_) fun h49=>?_
  ·refine jX (jte (jbx (jtn ?_)))
   refine jcg ?_;refine jq jrm ?_;refine jq jra ?_;refine jq jrm ?_;refine jN ?_;refine jtn ?_
   refine jlend (k+1) ?_ ?_ (h5:=?_) (h7:=?_)
   ·refine ⟨by omega,by omega,fun q h1 h2=>?_⟩
    by_cases hq:q=(k:Int)
    ·rw [hq]
     exact fun hi=>absurd hi.1 (by simpa using h49)
    ·exact hno q h1 (by omega)
   ·show 6-(k+1)<6-k;omega
   ·exact .cons (CEnt.int (by omega)) .nil
   ·exact .same .nil
  refine jS (jtn ?_)
  have hr:rightS (asKindP l k)=true:=by simpa using h49
  refine jcr ?_;refine jqo (jrdoA 3) ?_
  refine jqe (jecP (rparts_ac (asKindP l k) hr) ?_)
  refine jq jrm ?_;refine jN ?_
  obtain ⟨W,hW⟩:∃ W,W=partsS (asKindP l k):=⟨_,rfl⟩
  rw [← hW]
  refine jcr ?_;refine jq jrm ?_;refine jq jrl ?_;refine jq jrm ?_;refine jq jrl ?_;refine jq jrc ?_;refine jq jrm ?_;refine jN ?_;refine jcs ?_;refine jcr ?_;refine jq jrm ?_;refine jN ?_;refine jB ?_;refine l_loop (α:=Nat×Bool) [7,8,48,49,50,51,52,53,54,55,56,57,58,59,60,61,62,63,64,65] (fun (i,b)=>[(7,.c (.bool b)),(8,.c (.int .i64 (i:Nat)))]) (fun (i,b)=>[(p1,.blk 3 fun _=>.top),(p2,.blk 3 (sF (asKindP l k)))]) (fun (i,b)=>i≤W.length∧(b=true→W.length=l.length∧W.take i=l.take i)∧(b=false→W≠l)) (fun p=>W.length-p.1) ((0,decide (W.length=l.length))) ?_ (fun _=>rfl) ?_ ?_ ?_
  ·exact ⟨Nat.zero_le _,fun h=>⟨by simpa using h,by simp⟩,fun h e=>by rw [e] at h;simp at h⟩
  ·exact .cons (CEnt.bool (decide_eq_decide.2 (by omega))) (.cons cZ .nil)
  ·exact .same (.same .nil)
  ·rintro ⟨i,b⟩ ⟨hi,hw1,hw2⟩
   refine jcs ?_;refine jcr ?_;refine jq jrm ?_;refine jq jrm ?_;refine jqsp 49 (fun g54=>?_) fun g54=>?_
   rotate_left
   ·refine jqs ?_;refine jqs ?_;refine jqs ?_;refine jqs ?_;refine jq jrpF ?_;refine jN ?_;refine jcF ?_
    refine jX (jte (jte (jbx (jtn ?_))))
    refine jcr ?_;refine jq jrm ?_;refine jN ?_;refine jcc (fun h57=>?_) fun h57=>?_
    ·refine jcr ?_;refine jqo (jrdoA 3) ?_
     refine jqm (jmst 3 ?_)
     refine jq jrm ?_;refine jN ?_
     refine jR (jbr (jtr (jtr (jbr (jtr (jrt (hres:=res_2 rfl (javA 3) javt) (hv:=?_)))))))
     have hbt:b=true:=by exact h57
     have hWl:W=l:=by
      obtain ⟨hl1,hl2⟩:=hw1 hbt
      have hle:W.length≤i:=by (simp_all;done)
      rw [List.take_of_length_le (by omega),List.take_of_length_le (by omega)] at hl2
      exact hl2
     have hk:isKindP l k:=⟨hr,by rw [← hW];exact hWl⟩
     rw [kind_parts hk]
     exact CEnt.tup2 (CEnt.agg3 cZ cZ cZ) cZ
    refine jS (jbn (jtn ?_))
    refine jcg ?_;refine jq jrm ?_;refine jq jra ?_;refine jq jrm ?_;refine jN ?_;refine jtn ?_
    refine jlend (k+1) ?_ ?_ (h5:=?_) (h7:=?_)
    ·refine ⟨by omega,by omega,fun q h1 h2=>?_⟩
     by_cases hq:q=(k:Int)
     ·rw [hq]
      (rintro ⟨_,hi⟩;rw [← hW] at hi;exact hw2 (by simpa using h57) hi)
     ·exact hno q h1 (by omega)
    ·show 6-(k+1)<6-k;omega
    ·exact .cons (CEnt.int (by omega)) .nil
    ·exact .same .nil
   refine jq jrm ?_;refine jq jrm ?_;refine jq jrl ?_;refine jq jrc ?_;refine jq jrpT ?_;refine jN ?_;refine jcc (fun h54=>?_) fun h54=>?_
   ·refine jS (jtn ?_)
    refine jcs ?_;refine jB ?_
    obtain ⟨hl1,hl2⟩:=hw1 g54
    refine jcd (.rd 0 (.rd 1 (.rd 2 (.rd 3 (.rd 4 (.rd 5 (.rd 6 (.rd 7 (.rd 8 (.rd 9 .done)))))))))) ?_;refine jyq jrm ?_;refine jyq jrm ?_;refine jyq jri ?_;refine jyq (jrdrA 2) ?_;refine jyq jrm ?_;refine jyq jrm ?_;refine jyq jri ?_;refine jyq (jrdrA 2) ?_;refine jyq (rd_eqAgg rfl rfl rfl Tryz.underlying91 (by kernel_rfl) (by kernel_rfl) (.str Tryz.underlying9 (by decide) rfl rfl (.str Tryz.underlying9 (by decide) rfl rfl .nil)) rfl) ?_;refine jyq jrm ?_;refine jyd ?_
    refine jbn (jtn ?_)
    refine jcg ?_;refine jq jrm ?_;refine jq jra ?_;refine jq jrm ?_;refine jN ?_;refine jtn ?_
    refine jlend ((i+1,decide (W.getD i ([],[])=l.getD i ([],[])))) ?_ ?_ (h5:=?_) (h7:=?_)
    ·refine ⟨by omega,fun hb=>⟨hl1,?_⟩,fun hb e=>?_⟩
     ·have hb:W.getD i ([],[])=l.getD i ([],[]):=by simpa using hb
      rw [p2_getD (by omega),p2_getD (by omega)] at hb
      rw [List.take_succ_eq_append_getElem (show i<W.length by omega),List.take_succ_eq_append_getElem (show i<l.length by omega),hl2,hb]
     ·rw [e] at hb;simp at hb
    ·show W.length-(i+1)<W.length-i;omega
    ·exact .cons (CEnt.bool (decide_eq_decide.2 ⟨fun h=>Prod.ext (ba_inj.1 h.1) (ba_inj.1 h.2.1),fun h=>⟨by rw [h],by rw [h],trivial⟩⟩)) (.cons (CEnt.int (by omega)) .nil)
    ·exact .same (.same .nil)
   refine jX (jte (jte (jbx (jtn ?_))))
   refine jcr ?_;refine jq jrm ?_;refine jN ?_;refine jcc (fun h57=>?_) fun h57=>?_
   ·refine jcr ?_;refine jqo (jrdoA 3) ?_
    refine jqm (jmst 3 ?_)
    refine jq jrm ?_;refine jN ?_
    refine jR (jbr (jtr (jtr (jbr (jtr (jrt (hres:=res_2 rfl (javA 3) javt) (hv:=?_)))))))
    have hbt:b=true:=by exact h57
    have hWl:W=l:=by
     obtain ⟨hl1,hl2⟩:=hw1 hbt
     have hle:W.length≤i:=by omega
     rw [List.take_of_length_le (by omega),List.take_of_length_le (by omega)] at hl2
     exact hl2
    have hk:isKindP l k:=⟨hr,by rw [← hW];exact hWl⟩
    rw [kind_parts hk]
    exact CEnt.tup2 (CEnt.agg3 cZ cZ cZ) cZ
   refine jS (jbn (jtn ?_))
   refine jcg ?_;refine jq jrm ?_;refine jq jra ?_;refine jq jrm ?_;refine jN ?_;refine jtn ?_
   refine jlend (k+1) ?_ ?_ (h5:=?_) (h7:=?_)
   ·refine ⟨by omega,by omega,fun q h1 h2=>?_⟩
    by_cases hq:q=(k:Int)
    ·rw [hq]
     (rintro ⟨_,hi⟩;rw [← hW] at hi;exact hw2 (by simpa using h57) hi)
    ·exact hno q h1 (by omega)
   ·show 6-(k+1)<6-k;omega
   ·exact .cons (CEnt.int (by omega)) .nil
   ·exact .same .nil
end
end Am
end Go.Proofs.YteolfpolmioalaaGreatDoor
namespace Go.Proofs.YteolfpolmioalaaGreatDoor
set_option linter.unusedVariables false
open Go.RowKit Go.Extern.Stop Go.Stop Go.Extern

theorem isTypeOf (v:Value) (w:World):(callFunc 80 #[.iface 248 v]).run Tryz.prog w=.ok (.value (.iface 164 (.agg #[.pointer (some ⟨31,248,none⟩)]))) w:=by kernel_rfl
theorem isComparable (w:World):(callFunc 222 #[.agg #[.pointer (some ⟨31,248,none⟩)]]).run Tryz.prog w=.ok (.value (.bool true)) w:=by kernel_rfl
theorem isMethodComparable (v : Value) (w : World) : (Go.method 381 164 v "Comparable").run Tryz.prog w = .ok (222, v) w := by kernel_rfl
theorem isComp:(Tryz.prog.info? 248).map (·.comparable)=some true:=by kernel_rfl
theorem isSize:(Tryz.prog.info? 270).map (·.size)=some 1:=by kernel_rfl
theorem noIsE (v:Value) (xT:TypeId) (w:World):(Instr.typeAssert (.iface 248 v) xT 166 true).run Tryz.prog w=.ok (.tuple #[.nilIface,.bool false]) w:=run_typeAssert_lacksB Tryz.underlying166 (by kernel_rfl) (by kernel_rfl) v xT w
theorem noUnwrapE (v:Value) (xT:TypeId) (w:World):(Instr.typeAssert (.iface 248 v) xT 169 true).run Tryz.prog w=.ok (.tuple #[.nilIface,.bool false]) w:=run_typeAssert_lacksB Tryz.underlying169 (by kernel_rfl) (by kernel_rfl) v xT w
theorem noUnwrapsE (v:Value) (xT:TypeId) (w:World):(Instr.typeAssert (.iface 248 v) xT 170 true).run Tryz.prog w=.ok (.tuple #[.nilIface,.bool false]) w:=run_typeAssert_lacksB Tryz.underlying170 (by kernel_rfl) (by kernel_rfl) v xT w

set_option maxHeartbeats 400000 in
theorem is_same (a:Addr) (w:World) :
  Calls Tryz.prog 43 #[.iface 248 (.pointer (some a)),.iface 248 (.pointer (some a))] w fun e w'=>e=.returned (.bool true)∧w=w':=by
 obtain ⟨i,hi,hcmp⟩:=Option.map_eq_some_iff.1 isComp
 obtain ⟨j,hj,hjs⟩:=Option.map_eq_some_iff.1 isSize
 have tT:=isTypeOf
 have cT:=isComparable
 have mR:=isMethodComparable
 have heq:=run_eql_iface_ptr_same (P:=Tryz.prog) w a Tryz.underlying28 Tryz.underlying248 hi hcmp hj
 go_enter Tryz.func43,Tryz.ntmps43
 go_wp2
 refine wp_loop_rounds 1 ?_
 rw [rounds_succ]
 go_wp2
 go_ret
 exact ⟨rfl,rfl⟩

set_option maxHeartbeats 400000 in
theorem is_other (a b:Addr) (ca cb:Array Value) (ta tb:TypeId) (w:World) (hne:a≠b) (ha:w.heap[a.block]?=some (.cells ca ta (0,0))) (hb:w.heap[b.block]?=some (.cells cb tb (0,0))) :
  Calls Tryz.prog 43 #[.iface 248 (.pointer (some a)),.iface 248 (.pointer (some b))] w fun e w'=>e=.returned (.bool false)∧w=w':=by
 obtain ⟨i,hi,hcmp⟩:=Option.map_eq_some_iff.1 isComp
 obtain ⟨j,hj,hjs⟩:=Option.map_eq_some_iff.1 isSize
 have tT:=isTypeOf
 have cT:=isComparable
 have mR:=isMethodComparable
 have nE:=noIsE
 have uE:=noUnwrapE
 have vE:=noUnwrapsE
 have heq:=run_eql_iface_ptr_other (P:=Tryz.prog) w Tryz.underlying28 Tryz.underlying248 hi hcmp hj (by rw [hjs];decide) hne ha hb
 go_enter Tryz.func43,Tryz.ntmps43
 go_wp2
 refine wp_loop_rounds 1 ?_
 rw [rounds_succ]
 go_wp2
 go_ret
 exact ⟨rfl,rfl⟩

theorem is_ev {w:World} {al:List Addr} (h:Sent w al) (m k:Nat) (hm0:m≠0) (hm:m≤28) (hk:k<28) :
  Calls Tryz.prog 43 #[ev al m,ev al (k+1)] w fun e w'=>e=.returned (.bool (decide (m=k+1)))∧w=w':=by
 have hl:al.length=28:=h.len.trans (by rw [OkG.eq];rfl)
 obtain ⟨a,ha⟩:∃ a,al[m-1]?=some a:=⟨al[m-1],List.getElem?_eq_getElem (by omega)⟩
 obtain ⟨b,hb⟩:∃ b,al[k]?=some b:=⟨al[k],List.getElem?_eq_getElem (by omega)⟩
 have e1:ev al m=.iface 248 (.pointer (some a)):=by simp [ev,hm0,ha]
 have e2:ev al (k+1)=.iface 248 (.pointer (some b)):=by simp [ev,hb]
 rw [e1,e2]
 by_cases hmk:m=k+1
 ·subst hmk
  simp only [Nat.add_sub_cancel] at ha
  obtain rfl:=Option.some.inj (ha.symm.trans hb)
  simp only [decide_true]
  exact is_same a w
 ·have hne:a≠b:=by
   intro e
   subst e
   have all:∀ i,i<28→((errG gs)[i]?).any (fun g=>(lst gs).contains g)=true:=by decide
   have get:∀ i,i<28→∃ g,(errG gs)[i]?=some g∧g ∈ lst gs:=fun i hi=>by
    have h1:=all i hi
    cases h2:(errG gs)[i]? with
    | none=>rw [h2] at h1;cases h1
    | some g=>rw [h2] at h1;exact ⟨g,rfl,List.contains_iff_mem.1 h1⟩
   obtain ⟨g1,k1,k2⟩:=get (m-1) (by omega)
   obtain ⟨g2,k3,k4⟩:=get k hk
   have:=h.nd (m-1) k g1 g2 k1 k2 k3 k4 (ha.trans hb.symm)
   omega
  simp only [hmk,decide_false]
  obtain ⟨ca,ta,h1⟩:=h.row a (List.mem_of_getElem? ha)
  obtain ⟨cb,tb,h2⟩:=h.row b (List.mem_of_getElem? hb)
  exact is_other a b ca cb ta tb w hne h1 h2
end Go.Proofs.YteolfpolmioalaaGreatDoor
namespace Go.Proofs.YteolfpolmioalaaGreatDoor
set_option linter.unusedVariables false
open Go.RowKit

def evs (al:List Addr):Array Value:=#[ev al 1,ev al 2,ev al 3,ev al 4,ev al 5,ev al 6,ev al 7,ev al 8,ev al 9,ev al 10,ev al 11,ev al 12,ev al 13,ev al 14,ev al 15,ev al 16,ev al 17,ev al 18,ev al 19,ev al 20,ev al 21,ev al 22,ev al 23,ev al 24,ev al 25,ev al 26,ev al 27,ev al 28]
theorem evs_get (al:List Addr) (k:Nat) (hk:k<28):(evs al)[k]?=some (ev al (k+1)):=by
 have:∀ k,k<28→(evs al)[k]?=some (ev al (k+1)):=by
  intro k hk
  match k,hk with
  | 0,_=>rfl
  | 1,_=>rfl
  | 2,_=>rfl
  | 3,_=>rfl
  | 4,_=>rfl
  | 5,_=>rfl
  | 6,_=>rfl
  | 7,_=>rfl
  | 8,_=>rfl
  | 9,_=>rfl
  | 10,_=>rfl
  | 11,_=>rfl
  | 12,_=>rfl
  | 13,_=>rfl
  | 14,_=>rfl
  | 15,_=>rfl
  | 16,_=>rfl
  | 17,_=>rfl
  | 18,_=>rfl
  | 19,_=>rfl
  | 20,_=>rfl
  | 21,_=>rfl
  | 22,_=>rfl
  | 23,_=>rfl
  | 24,_=>rfl
  | 25,_=>rfl
  | 26,_=>rfl
  | 27,_=>rfl
  | k+28,h=>omega
 exact this k hk

set_option maxRecDepth 100000 in
set_option maxHeartbeats 400000 in
theorem num_any {w:World} {al:List Addr} (h:Sent w al) (m:Nat) (hm:m≤28) :
  Calls Tryz.prog 10 #[ev al m] w fun e w'=>e=.returned (.int .i64 m)∧Below w.heap.size w w':=by
 by_cases h0:m=0
 ·subst h0
  have e0:decide ((0:Nat)=0)=true:=rfl
  go_enter Tryz.func10,Tryz.ntmps10
  go_wp2
  go_ret
  exact ⟨rfl,Below.refl _ _⟩
 ·have hd:decide (m=0)=false:=by simpa using h0
  have g0:w.cell? ⟨0,0,none⟩=some (ev al 1):=h.var 0 _ rfl (by decide)
  have g1:w.cell? ⟨1,0,none⟩=some (ev al 2):=h.var 1 _ rfl (by decide)
  have g2:w.cell? ⟨2,0,none⟩=some (ev al 3):=h.var 2 _ rfl (by decide)
  have g3:w.cell? ⟨3,0,none⟩=some (ev al 4):=h.var 3 _ rfl (by decide)
  have g4:w.cell? ⟨4,0,none⟩=some (ev al 5):=h.var 4 _ rfl (by decide)
  have g5:w.cell? ⟨5,0,none⟩=some (ev al 6):=h.var 5 _ rfl (by decide)
  have g6:w.cell? ⟨6,0,none⟩=some (ev al 7):=h.var 6 _ rfl (by decide)
  have g7:w.cell? ⟨7,0,none⟩=some (ev al 8):=h.var 7 _ rfl (by decide)
  have g8:w.cell? ⟨8,0,none⟩=some (ev al 9):=h.var 8 _ rfl (by decide)
  have g9:w.cell? ⟨9,0,none⟩=some (ev al 10):=h.var 9 _ rfl (by decide)
  have g10:w.cell? ⟨10,0,none⟩=some (ev al 11):=h.var 10 _ rfl (by decide)
  have g11:w.cell? ⟨11,0,none⟩=some (ev al 12):=h.var 11 _ rfl (by decide)
  have g12:w.cell? ⟨12,0,none⟩=some (ev al 13):=h.var 12 _ rfl (by decide)
  have g13:w.cell? ⟨13,0,none⟩=some (ev al 14):=h.var 13 _ rfl (by decide)
  have g14:w.cell? ⟨14,0,none⟩=some (ev al 15):=h.var 14 _ rfl (by decide)
  have g15:w.cell? ⟨15,0,none⟩=some (ev al 16):=h.var 15 _ rfl (by decide)
  have g16:w.cell? ⟨16,0,none⟩=some (ev al 17):=h.var 16 _ rfl (by decide)
  have g17:w.cell? ⟨17,0,none⟩=some (ev al 18):=h.var 17 _ rfl (by decide)
  have g18:w.cell? ⟨18,0,none⟩=some (ev al 19):=h.var 18 _ rfl (by decide)
  have g19:w.cell? ⟨19,0,none⟩=some (ev al 20):=h.var 19 _ rfl (by decide)
  have g20:w.cell? ⟨20,0,none⟩=some (ev al 21):=h.var 20 _ rfl (by decide)
  have g21:w.cell? ⟨21,0,none⟩=some (ev al 22):=h.var 21 _ rfl (by decide)
  have g22:w.cell? ⟨22,0,none⟩=some (ev al 23):=h.var 22 _ rfl (by decide)
  have g23:w.cell? ⟨23,0,none⟩=some (ev al 24):=h.var 23 _ rfl (by decide)
  have g24:w.cell? ⟨24,0,none⟩=some (ev al 25):=h.var 24 _ rfl (by decide)
  have g25:w.cell? ⟨25,0,none⟩=some (ev al 26):=h.var 25 _ rfl (by decide)
  have g26:w.cell? ⟨26,0,none⟩=some (ev al 27):=h.var 26 _ rfl (by decide)
  have g27:w.cell? ⟨27,0,none⟩=some (ev al 28):=h.var 27 _ rfl (by decide)
  have HB:Hid (Below w.heap.size w (w.alloc (.cells (evs al) 28))):=(Below.refl _ _).alloc (Nat.le_refl _) _
  have HS:Hid (Sent (w.alloc (.cells (evs al) 28)) al):=h.below HB.out
  have HC:Hid (∀ k,k<28→(w.alloc (.cells (evs al) 28)).cell? ⟨w.heap.size,k,none⟩=some (ev al (k+1))):=fun k hk=>by
   rw [World.cell?_alloc_mark]
   exact evs_get al k hk
  clear h
  go_enter Tryz.func10,Tryz.ntmps10
  go_wp2_with (refine wpList_value (o:=⟨some 36,_,_,_,_,_⟩) (.slice (some ⟨w.heap.size,0,none⟩) 28 28) (w.alloc (.cells (evs al) 28)) rfl (by kernel_rfl) ?_)
  clear g0 g1 g2 g3 g4 g5 g6 g7 g8 g9 g10 g11 g12 g13 g14 g15 g16 g17 g18 g19 g20 g21 g22 g23 g24 g25 g26 g27
  show Code.wp _ _ _ _ (w.alloc (.cells (evs al) 28))
  generalize hW:w.alloc (.cells (evs al) 28)=W at HB HS HC ⊢
  have HW:=Lib.hid hW
  clear hW
  go_loop [39] (fun i=>∃ k:Nat,k<m∧i=.int .i64 k) (fun i=>28-(intOf i).toNat)
  case atStart=>exact ⟨0,by omega,rfl⟩
  case round =>
   obtain ⟨k,hk,rfl⟩:=hrel
   have hc:=HC.out k (by omega)
   by_cases hlast:m=k+1
   ·subst hlast
    have C:=Lib.hid (is_ev HS.out (k+1) k h0 hm (by omega))
    go_wp2_with (go_at_call 43;refine (C.out).mono ?_;rintro e w' ⟨rfl,rfl⟩)
    go_ret
    exact ⟨by simp,HB.out⟩
   ·have hdd:decide (m=k+1)=false:=by simpa using hlast
    have C:=Lib.hid (is_ev HS.out m k h0 hm (by omega))
    go_wp2_with (go_at_call 43;refine (C.out).mono ?_;rintro e w' ⟨rfl,rfl⟩)
    go_round
    case rel=>exact ⟨k+1,by omega,by go_num⟩
    case measure=>simp [intOf];omega
end Go.Proofs.YteolfpolmioalaaGreatDoor
namespace Go.Proofs.YteolfpolmioalaaGreatDoor
set_option linter.unusedVariables false
namespace Am
section
variable {gs:List Nat} [OkG gs]
open Go.RowKit
theorem num_ac (m:Nat) (hm:m≤28):ACp gs Tryz.prog 10 [.err m] (.c (.int .i64 m)) :=
 ac_old fun al w St vals hs hv hr=>by
  have h0:vals.getD 0 undef=ev al m:=hr 0
  rw [vals1 hv,h0]
  exact num_any hs.std m hm
end
section
variable {gs:List Nat} [OkG gs]
open Go.RowKit

theorem web_right:rightS ((2:Int),[115,104,111,112],[119,101,98])=true:=by decide +kernel
theorem web_text:textS ((2:Int),[115,104,111,112],[119,101,98])=[119,111,114,107,108,111,97,100,58,115,104,111,112,47,119,101,98]:=by decide +kernel
theorem alive09_ac:ACp gs Tryz.prog 6 [] (.c (.bool true)):=by
 have hr:=web_right
 have ht:=web_text
 refine ac_of 14 Tryz.func6 rfl rfl rfl (fun al w0 F0 St0=>?_)
 refine jcr ?_;refine jq jrm ?_;refine jN ?_;refine jcr ?_;refine jq (rd_build (n:=3) rfl zr26 pl26 rfl rfl) ?_
 refine jqe (jecP (ntext_ac ((2:Int),[115,104,111,112],[119,101,98])) ?_)
 refine jq jrm ?_;refine jq jrx ?_;refine jq jrx ?_;refine jq jrm ?_;refine jq jrm ?_;refine jN ?_;refine jcr ?_;refine jq jrm ?_;refine jq jre ?_;refine jq jrm ?_;refine jqsp 10 (fun g14=>?_) fun g14=>?_
 ·refine jq jrm ?_;refine jq jrcs ?_;refine jq jrpT ?_;refine jq jrm ?_;refine jN ?_
  refine jR (jrt (hv:=?_))
  refine CEnt.bool ?_
  simp_all
 refine jqs ?_;refine jqs ?_;refine jq jrpF ?_;refine jq jrm ?_;refine jN ?_
 refine jR (jrt (hv:=?_))
 refine CEnt.bool ?_
 simp_all
theorem ofP_bd (l:List P2):(ofP l).2=0∨((ofP l).2=9∧(ofP l).1=zeroS):=by
 unfold ofP;split
 ·exact .inl rfl
 ·exact .inr ⟨rfl,rfl⟩
end
section
open Go.RowKit
theorem HRel.weak {al:List Addr} {St:Nat→Prop} {w:World} {base:Nat} {F0:Nat→Prop} {H:List (Option Nat×Res)} {i n m:Nat} {g:Option Nat} {f F:Nat→CV} (hi:H[i]?=some (g,.blk n f)) (hm:m≤n) (hF:∀ j,j<m→CEnt (f j) (F j)) (h:HRel al St w base F0 H):HRel al St w base F0 (H.set i (g,.blk m F)):=by
 obtain ⟨fp,hp⟩:=h
 have hlt:=(List.getElem?_eq_some_iff.1 hi).1
 refine ⟨fp,fun j q r hj=>?_,hp.dis,hp.own,fun j hj=>hp.out j (by simpa using hj)⟩
 by_cases e:j=i
 ·subst e
  simp [hlt] at hj
  obtain ⟨rfl,rfl⟩:=hj
  have:=hp.rep j g _ hi
  cases g with
  | none=>exact ⟨by have:=this.1;omega,this.2⟩
  | some g =>
   obtain ⟨h0,cur,t,h1,h2,h3⟩:=this
   exact ⟨h0,cur,t,h1,by omega,fun a ha=>hF a ha _ _ _ _ (h3 a (by omega))⟩
 ·rw [List.getElem?_set_ne (Ne.symm e)] at hj
  exact hp.rep j q r hj
def killL (H:List (Option Nat×Res)) (js:List Nat):List (Option Nat×Res):=js.foldl (fun H j=>H.set j (none,.dead)) H
theorem killL_len:∀ (js:List Nat) (H:List (Option Nat×Res)),(killL H js).length=H.length
 | [],_=>rfl
 | j::js,H=>by
  have:=killL_len js (H.set j (none,.dead))
  rw [List.length_set] at this
  exact this
theorem killL_at:∀ (js:List Nat) (H:List (Option Nat×Res)) (q:Nat),q<H.length→(killL H js)[q]?=if q ∈ js then some (none,.dead) else H[q]?
 | [],_,_,_=>by simp [killL]
 | j::js,H,q,hq=>by
  have:=killL_at js (H.set j (none,.dead)) q (by simpa using hq)
  show (killL (H.set j (none,.dead)) js)[q]?=_
  rw [this]
  by_cases h1:q ∈ js
  ·rw [if_pos h1,if_pos (List.mem_cons_of_mem _ h1)]
  ·rw [if_neg h1]
   by_cases h2:q=j
   ·subst h2
    rw [if_pos List.mem_cons_self]
    simp [hq]
   ·rw [if_neg (by simp [h1,h2]),List.getElem?_set_ne (Ne.symm h2)]
theorem HRel.closeN {al:List Addr} {St:Nat→Prop} {w:World} {base:Nat} {F0:Nat→Prop} {γ:Type} {gd:γ→Nat} {E:γ→List (Option Nat×Res)} {H:List (Option Nat×Res)} (x:γ) (i:Nat) (js:List Nat) (hnd:(i::js).Nodup) (hlt:∀ j ∈ i::js,j<H.length) (hE:pickL H (i::js)=E x) (h:HRel al St w base F0 H) :
  HRel al St w base F0 (killL (H.set i (objE (gd x) gd E)) js):=by
 obtain ⟨fp,hp⟩:=h
 have hi:i<H.length:=hlt i List.mem_cons_self
 have hij:i ∉ js:=(List.nodup_cons.1 hnd).1
 refine ⟨fun q b=>if q=i then ∃ p:Nat,∃ j,(i::js)[p]?=some j∧fp j b else if q ∈ js then False else fp q b,fun q g r hq=>?_,fun p q b h1 h2=>?_,fun q b hq=>?_,fun q hq b hb=>?_⟩
 ·have hql:q<H.length:=by
   have:=(List.getElem?_eq_some_iff.1 hq).1
   rwa [killL_len,List.length_set] at this
  rw [killL_at _ _ _ (by simpa using hql)] at hq
  by_cases e:q=i
  ·subst e
   rw [if_neg hij] at hq
   simp [hi] at hq
   obtain ⟨rfl,rfl⟩:=hq
   simp only [if_true]
   refine ⟨x,rfl,fun p b=>∃ j,(q::js)[p]?=some j∧fp j b,fun p g r hp1=>?_,fun p1 p2 b h1 h2=>?_,fun p hp1 b hb=>?_,fun b=>Iff.rfl⟩
   ·rw [← hE,pickL,List.getElem?_map,Option.map_eq_some_iff] at hp1
    obtain ⟨j,hj,he⟩:=hp1
    have hjl:=hlt j (List.mem_of_getElem? hj)
    have e:(fun b=>∃ j,(q::js)[p]?=some j∧fp j b)=fp j:=funext fun b=>propext ⟨fun ⟨j',h1,h2⟩=>by rw [hj] at h1;cases h1;exact h2,fun h=>⟨j,hj,h⟩⟩
    show r.rep al St w (fun b=>∃ j,(q::js)[p]?=some j∧fp j b) g
    rw [e]
    refine hp.rep j g r ?_
    rw [List.getElem?_eq_getElem hjl]
    simpa [List.getD,hjl] using he
   ·obtain ⟨j1,a1,b1⟩:=h1
    obtain ⟨j2,a2,b2⟩:=h2
    have:=hp.dis _ _ b b1 b2
    subst this
    exact (List.getElem?_inj (List.getElem?_eq_some_iff.1 a1).1 hnd).1 (a1.trans a2.symm)
   ·obtain ⟨j,a,_⟩:=hb
    have:=(List.getElem?_eq_some_iff.1 a).1
    rw [← hE] at hp1
    simp only [pickL,List.length_map] at hp1
    omega
  ·by_cases e2:q ∈ js
   ·rw [if_pos e2] at hq
    cases hq
    simp only [e,e2,if_true,if_false]
    exact fun b hb=>hb
   ·rw [if_neg e2,List.getElem?_set_ne (Ne.symm e)] at hq
    simp only [e,e2,if_false]
    exact hp.rep q g r hq
 ·have mem:∀ {b:Nat},(∃ p:Nat,∃ j,(i::js)[p]?=some j∧fp j b)→∃ j,j ∈ i::js∧fp j b:=fun ⟨p,j,h1,h2⟩=>⟨j,List.mem_of_getElem? h1,h2⟩
  by_cases e1:p=i <;> by_cases e2:q=i
  ·rw [e1,e2]
  ·simp only [e1,e2,if_true,if_false] at h1 h2
   by_cases e3:q ∈ js
   ·simp only [e3,if_true] at h2
   ·simp only [e3,if_false] at h2
    obtain ⟨j,hj,hb⟩:=mem h1
    have:=hp.dis _ _ b hb h2
    subst this
    rcases List.mem_cons.1 hj with h|h
    ·exact absurd h e2
    ·exact absurd h e3
  ·simp only [e1,e2,if_true,if_false] at h1 h2
   by_cases e3:p ∈ js
   ·simp only [e3,if_true] at h1
   ·simp only [e3,if_false] at h1
    obtain ⟨j,hj,hb⟩:=mem h2
    have:=hp.dis _ _ b hb h1
    subst this
    rcases List.mem_cons.1 hj with h|h
    ·exact absurd h e1
    ·exact absurd h e3
  ·simp only [e1,e2,if_false] at h1 h2
   by_cases e3:p ∈ js
   ·simp only [e3,if_true] at h1
   ·by_cases e4:q ∈ js
    ·simp only [e4,if_true] at h2
    ·simp only [e3,e4,if_false] at h1 h2
     exact hp.dis _ _ b h1 h2
 ·by_cases e1:q=i
  ·simp only [e1,if_true] at hq
   obtain ⟨p,j,_,hb⟩:=hq
   exact hp.own _ b hb
  ·by_cases e2:q ∈ js
   ·simp only [e1,e2,if_true,if_false] at hq
   ·simp only [e1,e2,if_false] at hq
    exact hp.own _ b hq
 ·rw [killL_len,List.length_set] at hq
  have e1:q≠i:=by omega
  by_cases e2:q ∈ js
  ·simp only [e1,e2,if_true,if_false] at hb
  ·simp only [e1,e2,if_false] at hb
   exact hp.out q hq b hb
section
variable {P:Program} {G:Gh} {ops:Array Oper} {s:AS} {K:AS→Prop} {c:Code} {R:Exit→AS→Prop} {γ:Type} {gd:γ→Nat}
theorem weakH (i m:Nat) (F:Nat→CV) {n:Nat} {g:Option Nat} {f:Nat→CV} (hi:s.H[i]?=some (g,.blk n f)) (hm:m≤n) (hF:∀ j,j<m→CEnt (f j) (F j)):EntS G s ⟨s.env,s.b,s.H.set i (g,.blk m F)⟩:=EntS.hrel fun h=>h.weak hi hm hF
theorem closeN {E:γ→List (Option Nat×Res)} (x:γ) (i:Nat) (js:List Nat) (hnd:(i::js).Nodup) (hlt:∀ j ∈ i::js,j<s.H.length) (hE:pickL s.H (i::js)=E x):EntS G s ⟨s.env,s.b,killL (s.H.set i (objE (gd x) gd E)) js⟩:=EntS.hrel fun h=>h.closeN x i js hnd hlt hE
theorem end_pack {fn:Func} {Q:CV→List (Option Nat×Res)→Prop} {e:Exit} {γ:Type} {gd:γ→Nat} {E:γ→List (Option Nat×Res)} (he:e=.ret∨e=.normal) (v:CV) (z:γ) (l:List Nat) (hl:l.Nodup) (hH:pickL s.H l=E z++[]) (hres:ARes P G fn s v) (hq:Q v [objE (gd z) gd E]):bodyR P G fn Q e s:=by
 have h:∃ r H',ARes P G fn s r∧Q r H'∧∀ St a w,RelSt G St s a w→HRel G.al St w G.w0.heap.size G.F0 H':=⟨v,_,hres,hq,fun _ _ _ hr=>(hr.hp.pick l hl hH).pack z⟩
 rcases he with rfl|rfl <;> exact h
theorem end_packV {fn:Func} {e:Exit} {γ:Type} {gd:γ→Nat} {E:γ→List (Option Nat×Res)} {v m:CV} (he:e=.ret∨e=.normal) (z:γ) (l:List Nat) (hl:l.Nodup) (hH:pickL s.H l=E z++[]) (hres:ARes P G fn s v) (hv:CEnt v m):bodyR P G fn (fun r H'=>r=m∧H'=[objE (gd z) gd E]) e s:=end_pack he m z l hl hH (hres.ent hv) ⟨rfl,rfl⟩
theorem code_knowG {P:Program} {G:Gh} {c:Code} {s:AS} {R:Exit→AS→Prop} {φ:Prop} (hφ:∀ a w,Rel G s a w→φ) (h:φ→ACode P G c s R):ACode P G c s R:=fun a w hr Q hQ=>h (hφ a w hr) a w hr Q hQ
theorem know_op {G:Gh} {s:AS} (d:Nat) {i off:Nat} {g:Option Nat} (hl:look s.env s.b d=.op i g off):∀ a w,Rel G s a w→∃ n,g=some n:=fun a w ⟨St,hr⟩=>by
 have:=evR hr (x:=.tmp d) hl
 obtain ⟨b,hb,_⟩:=this
 exact ⟨b,hb⟩
theorem end_ownV {fn:Func} {Q:CV→List (Option Nat×Res)→Prop} {e:Exit} {v m:CV} {H':List (Option Nat×Res)} (he:e=.ret∨e=.normal) (l:List Nat) (hl:l.Nodup) (hH:pickL s.H l=H') (hres:ARes P G fn s v) (hv:CEnt v m) (hq:Q m H'):bodyR P G fn Q e s:=end_own he m H' l hl hH (hres.ent hv) hq
theorem end_H {fn:Func} {e:Exit} {v m:CV} {x:Option Nat×Res} (he:e=.ret∨e=.normal) (hH:s.H[0]?=some x) (hres:ARes P G fn s v) (hv:CEnt v m):bodyR P G fn (fun r H'=>r=m∧H'=[x]) e s :=
 end_own he m [x] [0] (by decide) (by simp [pickL,List.getD,hH]) (hres.ent hv) ⟨rfl,rfl⟩
end
end
section
open Go.RowKit
def bagE (L:List (Option Nat×Res)):Option Nat×Res:=objE 0 (fun _:Unit=>0) (fun _=>L)
theorem HRel.bag_push {al:List Addr} {St:Nat→Prop} {w:World} {base:Nat} {F0:Nat→Prop} {H L:List (Option Nat×Res)} {i b:Nat} {x:Option Nat×Res} (hb:H[b]?=some (bagE L)) (hi:H[i]?=some x) (hib:i≠b) (h:HRel al St w base F0 H) :
  HRel al St w base F0 ((H.set b (bagE (x::L))).set i (Option.none,.dead)):=by
 obtain ⟨fp,hp⟩:=h
 have hbl:=(List.getElem?_eq_some_iff.1 hb).1
 have hil:=(List.getElem?_eq_some_iff.1 hi).1
 obtain ⟨u,_,fe,he⟩:=hp.rep b _ _ hb
 refine ⟨fun q c=>if q=i then False else if q=b then fp i c∨fp b c else fp q c,fun q g r hq=>?_,fun p q c h1 h2=>?_,fun q c hq=>?_,fun q hq c hc=>?_⟩
 ·by_cases e1:q=i
  ·subst e1
   simp [hil] at hq
   obtain ⟨rfl,rfl⟩:=hq
   simp only [if_true]
   exact fun c hc=>hc
  ·rw [List.getElem?_set_ne (Ne.symm e1)] at hq
   by_cases e2:q=b
   ·subst e2
    simp [hbl,bagE,objE] at hq
    obtain ⟨rfl,rfl⟩:=hq
    simp only [e1,if_true,if_false]
    refine ⟨(),rfl,fun k c=>match k with|0=>fp i c|k+1=>fe k c,fun k g r hk=>?_,fun j k c hj hk=>?_,fun k hk c hc=>?_,fun c=>⟨fun hc=>?_,fun ⟨k,hk⟩=>?_⟩⟩
    ·cases k with
     | zero =>
      simp only [List.getElem?_cons_zero,Option.some.injEq] at hk
      exact hp.rep i g r (by rw [hi,hk])
     | succ k=>exact he.rep k g r (by simpa using hk)
    ·cases j with
     | zero =>
      cases k with
      | zero=>rfl
      | succ k=>exact absurd (hp.dis _ _ c hj ((he.all c).2 ⟨k,hk⟩)) (fun e=>hib e)
     | succ j =>
      cases k with
      | zero=>exact absurd (hp.dis _ _ c hk ((he.all c).2 ⟨j,hj⟩)) (fun e=>hib e)
      | succ k=>rw [he.dis j k c hj hk]
    ·cases k with
     | zero=>simp at hk
     | succ k=>exact he.out k (by simpa using hk) c hc
    ·rcases hc with hc|hc
     ·exact ⟨0,hc⟩
     ·obtain ⟨k,hk⟩:=(he.all c).1 hc
      exact ⟨k+1,hk⟩
    ·cases k with
     | zero=>exact .inl hk
     | succ k=>exact .inr ((he.all c).2 ⟨k,hk⟩)
   ·rw [List.getElem?_set_ne (Ne.symm e2)] at hq
    simp only [e1,e2,if_false]
    exact hp.rep q g r hq
 ·by_cases e1:p=i
  ·simp only [e1,if_true] at h1
  ·by_cases e2:q=i
   ·simp only [e2,if_true] at h2
   ·simp only [e1,e2,if_false] at h1 h2
    by_cases e3:p=b <;> by_cases e4:q=b <;> simp only [e3,e4,if_true,if_false] at h1 h2
    ·rw [e3,e4]
    ·rcases h1 with h1|h1
     ·exact absurd (hp.dis _ _ c h1 h2).symm e2
     ·exact absurd (hp.dis _ _ c h1 h2).symm e4
    ·rcases h2 with h2|h2
     ·exact absurd (hp.dis _ _ c h1 h2) e1
     ·exact absurd (hp.dis _ _ c h1 h2) e3
    ·exact hp.dis _ _ c h1 h2
 ·by_cases e1:q=i
  ·simp only [e1,if_true] at hq
  ·by_cases e2:q=b
   ·rw [if_neg e1,if_pos e2] at hq
    rcases hq with hq|hq
    ·exact hp.own _ c hq
    ·exact hp.own _ c hq
   ·rw [if_neg e1,if_neg e2] at hq
    exact hp.own _ c hq
 ·simp only [List.length_set] at hq
  rw [if_neg (by omega),if_neg (by omega)] at hc
  exact hp.out q hq c hc
theorem HRel.bag_pop {al:List Addr} {St:Nat→Prop} {w:World} {base:Nat} {F0:Nat→Prop} {H L:List (Option Nat×Res)} {b:Nat} {x:Option Nat×Res} (hb:H[b]?=some (bagE (x::L))) (h:HRel al St w base F0 H) :
  HRel al St w base F0 (H.set b (bagE L)++[x]):=by
 obtain ⟨fp,hp⟩:=h
 have hbl:=(List.getElem?_eq_some_iff.1 hb).1
 obtain ⟨u,_,fe,he⟩:=hp.rep b _ _ hb
 have inB:∀ k c,fe k c→fp b c:=fun k c hk=>(he.all c).2 ⟨k,hk⟩
 refine ⟨fun q c=>if q=H.length then fe 0 c else if q=b then ∃ k,fe (k+1) c else fp q c,fun q g r hq=>?_,fun p q c h1 h2=>?_,fun q c hq=>?_,fun q hq c hc=>?_⟩
 ·by_cases e1:q=H.length
  ·subst e1
   rw [List.getElem?_append_right (by simp)] at hq
   simp at hq
   simp only [if_true]
   exact he.rep 0 g r (by rw [hq];rfl)
  ·have hql:q<H.length:=by
    have:=(List.getElem?_eq_some_iff.1 hq).1
    simp at this
    omega
   rw [List.getElem?_append_left (by simpa using hql)] at hq
   simp only [e1,if_false]
   by_cases e2:q=b
   ·subst e2
    simp [hbl,bagE,objE] at hq
    obtain ⟨rfl,rfl⟩:=hq
    simp only [if_true]
    refine ⟨(),rfl,fun k c=>fe (k+1) c,fun k g r hk=>he.rep (k+1) g r (by simpa using hk),fun j k c hj hk=>by have:=he.dis _ _ c hj hk;omega,fun k hk c hc=>he.out (k+1) (by simp;omega) c hc,fun c=>Iff.rfl⟩
   ·rw [List.getElem?_set_ne (Ne.symm e2)] at hq
    simp only [e2,if_false]
    exact hp.rep q g r hq
 ·by_cases e1:p=H.length <;> by_cases e2:q=H.length
  ·rw [e1,e2]
  ·rw [if_pos e1] at h1
   rw [if_neg e2] at h2
   by_cases e3:q=b
   ·rw [if_pos e3] at h2
    obtain ⟨k,hk⟩:=h2
    have:=he.dis _ _ c h1 hk
    omega
   ·rw [if_neg e3] at h2
    exact absurd (hp.dis _ _ c (inB _ _ h1) h2).symm e3
  ·rw [if_neg e1] at h1
   rw [if_pos e2] at h2
   by_cases e3:p=b
   ·rw [if_pos e3] at h1
    obtain ⟨k,hk⟩:=h1
    have:=he.dis _ _ c h2 hk
    omega
   ·rw [if_neg e3] at h1
    exact absurd (hp.dis _ _ c (inB _ _ h2) h1).symm e3
  ·rw [if_neg e1] at h1
   rw [if_neg e2] at h2
   by_cases e3:p=b <;> by_cases e4:q=b <;> simp only [e3,e4,if_true,if_false] at h1 h2
   ·rw [e3,e4]
   ·obtain ⟨k,hk⟩:=h1
    exact absurd (hp.dis _ _ c (inB _ _ hk) h2).symm e4
   ·obtain ⟨k,hk⟩:=h2
    exact absurd (hp.dis _ _ c (inB _ _ hk) h1).symm e3
   ·exact hp.dis _ _ c h1 h2
 ·by_cases e1:q=H.length
  ·rw [if_pos e1] at hq
   exact hp.own b c (inB _ _ hq)
  ·rw [if_neg e1] at hq
   by_cases e2:q=b
   ·rw [if_pos e2] at hq
    obtain ⟨k,hk⟩:=hq
    exact hp.own b c (inB _ _ hk)
   ·rw [if_neg e2] at hq
    exact hp.own q c hq
 ·simp at hq
  rw [if_neg (by omega),if_neg (by omega)] at hc
  exact hp.out q (by omega) c hc
theorem HRel.bag_new {al:List Addr} {St:Nat→Prop} {w:World} {base:Nat} {F0:Nat→Prop} {H:List (Option Nat×Res)} (h:HRel al St w base F0 H):HRel al St w base F0 (H++[bagE []]):=by
 obtain ⟨fp,hp⟩:=h
 refine ⟨fp,fun q g r hq=>?_,hp.dis,hp.own,fun q hq c hc=>hp.out q (by simp at hq;omega) c hc⟩
 by_cases e1:q<H.length
 ·rw [List.getElem?_append_left e1] at hq
  exact hp.rep q g r hq
 ·rw [List.getElem?_append_right (by omega)] at hq
  have hno:∀ c,¬ fp q c:=fun c hc=>hp.out q (by omega) c hc
  have e2:q-H.length=0:=by
   have:=(List.getElem?_eq_some_iff.1 hq).1
   simp at this
   omega
  rw [e2] at hq
  simp [bagE,objE] at hq
  obtain ⟨rfl,rfl⟩:=hq
  exact ⟨(),rfl,fun _ _=>False,fun k g r hk=>by simp at hk,fun _ _ _ h=>h.elim,fun _ _ _ h=>h,fun c=>⟨fun hc=>(hno c hc).elim,fun ⟨_,hk⟩=>hk.elim⟩⟩
section
variable {G:Gh} {env:List (Nat×CV)} {b0:Nat→CV} {H L:List (Option Nat×Res)} {x:Option Nat×Res}
theorem bag_push (b i:Nat) (hb:H[b]?=some (bagE L)) (hi:H[i]?=some x) (hib:Nat.beq i b=false):EntS G ⟨env,b0,H⟩ ⟨env,b0,(H.set b (bagE (x::L))).set i (none,.dead)⟩:=EntS.hrel fun h=>h.bag_push hb hi (Nat.ne_of_beq_eq_false hib)
theorem bag_pop (b:Nat) (hb:H[b]?=some (bagE (x::L))):EntS G ⟨env,b0,H⟩ ⟨env,b0,H.set b (bagE L)++[x]⟩:=EntS.hrel fun h=>h.bag_pop hb
theorem bag_new:EntS G ⟨env,b0,H⟩ ⟨env,b0,H++[bagE []]⟩:=EntS.hrel fun h=>h.bag_new
end
theorem HRel.osRs {al:List Addr} {St:Nat→Prop} {w:World} {base:Nat} {F0:Nat→Prop} {H:List (Option Nat×Res)} {i q off n m N:Nat} {g:Option Nat} {F:Nat→CV} {f:Nat→Nat→CV} {v:Value} (h:HRel al St w base F0 H) (hH:H[i]?=some (g,.frz N F)) (hN:off+n * m≤N) (hf:∀ a b,a<n→b<m→CEnt (F (off+(a * m+b))) (f a b)) (he:RepC al St w (.os q g off n m) v):RepC al St w (.rs m n f) v:=by
 cases g with
 | none =>
  obtain ⟨h1,h2⟩:=he
  subst h1
  exact ⟨_,0,h2,Nat.le_refl _,by decide,fun _=>rfl,fun _ h=>by cases h⟩
 | some g =>
  obtain ⟨cap,h1,h2,h3,_⟩:=he
  obtain ⟨fp,hp⟩:=h
  obtain ⟨_,hg,cur,t,z,hh,hle,hc⟩:=hp.rep i (some g) _ hH
  refine ⟨_,cap,h1,h2,h3,(fun h=>by cases h),fun ad ha _=>?_⟩
  cases ha
  refine ⟨rfl,hg,fun p q hp' hq=>?_⟩
  have hb:p * m+q<n * m:=by
   have:p * m+m≤n * m:=by rw [← Nat.succ_mul];exact Nat.mul_le_mul_right _ hp'
   omega
  have hlt:off+(p * m+q)<cur.size:=by omega
  refine ⟨cur.getD (off+(p * m+q)) undef,?_,hf p q hp' hq _ _ _ _ (hc _ (by omega))⟩
  show w.cell? ⟨g,off+(p * m+q),Option.none⟩=_
  rw [cell_of_row w g _ cur t z hh];simp [hlt]
theorem HRel.thawC {al:List Addr} {St:Nat→Prop} {w:World} {base:Nat} {F0:Nat→Prop} {H:List (Option Nat×Res)} {b j0 i q off n m M N:Nat} {g gb:Option Nat} {B B' F:Nat→CV} {f:Nat→Nat→CV} (hb:H[b]?=some (gb,.blk M B)) (hH:H[i]?=some (g,.frz N F)) (hB:CEnt (B j0) (.os q g off n m)) (hB0:CEnt (.rs m n f) (B' j0)) (hB':∀ j,j<M→j≠j0→CEnt (B j) (B' j)) (hN:off+n * m≤N) (hf:∀ a b,a<n→b<m→CEnt (F (off+(a * m+b))) (f a b)) (h:HRel al St w base F0 H) :
  HRel al St w base F0 (H.set b (gb,.blk M B')):=by
 have hk:=fun {v}=>h.osRs (v:=v) hH hN hf (q:=q)
 obtain ⟨fp,hp⟩:=h
 have hlt:=(List.getElem?_eq_some_iff.1 hb).1
 refine ⟨fp,fun j q r hj=>?_,hp.dis,hp.own,fun j hj=>hp.out j (by simpa using hj)⟩
 by_cases e:j=b
 ·subst e
  simp [hlt] at hj
  obtain ⟨rfl,rfl⟩:=hj
  have:=hp.rep j gb _ hb
  cases gb with
  | none=>exact this
  | some gb =>
   obtain ⟨h0,cur,t,h1,h2,h3⟩:=this
   refine ⟨h0,cur,t,h1,h2,fun a ha=>?_⟩
   by_cases ea:a=j0
   ·subst ea
    exact hB0 _ _ _ _ (hk (hB _ _ _ _ (h3 a ha)))
   ·exact hB' a ha ea _ _ _ _ (h3 a ha)
 ·rw [List.getElem?_set_ne (Ne.symm e)] at hj
  exact hp.rep j q r hj
section
variable {G:Gh} {env:List (Nat×CV)} {b0:Nat→CV} {H:List (Option Nat×Res)}
theorem thawC (b j0 i:Nat) (B':Nat→CV) (f:Nat→Nat→CV) {q off n m M N:Nat} {g gb:Option Nat} {B F:Nat→CV} (hb:H[b]?=some (gb,.blk M B)) (hH:H[i]?=some (g,.frz N F)) (hB:CEnt (B j0) (.os q g off n m)) (hB0:CEnt (.rs m n f) (B' j0)) (hB':∀ j,j<M→j≠j0→CEnt (B j) (B' j)) (hN:off+n * m≤N) (hf:∀ a b,a<n→b<m→CEnt (F (off+(a * m+b))) (f a b)) :
  EntS G ⟨env,b0,H⟩ ⟨env,b0,H.set b (gb,.blk M B')⟩:=EntS.hrel fun h=>h.thawC hb hH hB hB0 hB' hN hf
theorem thawA (d i:Nat) (f:Nat→Nat→CV) (c0:CV) {q off n m N:Nat} {g:Option Nat} {A F:Nat→CV} (hl:look env b0 d=.agg 2 A) (hH:H[i]?=some (g,.frz N F)) (h0:CEnt (A 0) c0) (h1:CEnt (A 1) (.os q g off n m)) (hN:off+n * m≤N) (hf:∀ a b,a<n→b<m→CEnt (F (off+(a * m+b))) (f a b)) :
  EntS G ⟨env,b0,H⟩ ⟨(d,.agg 2 (fl [c0,.rs m n f]))::env,b0,H⟩:=fun St a w hr=>by
 refine ⟨St,fun _ h=>h,hr.df,hr.sz,fun e=>?_,hr.un,hr.s1,hr.s2,hr.s3,hr.hp,hr.sn,hr.sg⟩
 by_cases hde:d=e
 ·subst hde
  rw [look_same]
  have he:=hr.env d
  rw [hl] at he
  obtain ⟨cs,k1,k2,k3⟩:=he
  refine ⟨cs,k1,k2,fun j hj=>?_⟩
  rcases j with _|_|j
  ·exact h0 _ _ _ _ (k3 0 (by omega))
  ·exact hr.hp.osRs hH hN hf (h1 _ _ _ _ (k3 1 (by omega)))
  ·omega
 ·rw [look_other _ _ _ hde];exact hr.env e
end
theorem end_hr {P:Program} {G:Gh} {fn:Func} {Q:CV→List (Option Nat×Res)→Prop} {e:Exit} {env:List (Nat×CV)} {b0:Nat→CV} {H H':List (Option Nat×Res)} (h:∀ {al St w base F0},HRel al St w base F0 H→HRel al St w base F0 H') (hb:bodyR P G fn Q e ⟨env,b0,H'⟩):bodyR P G fn Q e ⟨env,b0,H⟩:=by
 have cv:∀ {St a w},RelSt G St ⟨env,b0,H⟩ a w→RelSt G St ⟨env,b0,H'⟩ a w:=fun hr=>⟨hr.df,hr.sz,hr.env,hr.un,hr.s1,hr.s2,hr.s3,h hr.hp,hr.sn,hr.sg⟩
 cases e with
 | normal =>
  obtain ⟨r,K,k1,k2,k3⟩:=hb
  exact ⟨r,K,fun St a w hr=>k1 St a w (cv hr),k2,fun St a w hr=>k3 St a w (cv hr)⟩
 | ret =>
  obtain ⟨r,K,k1,k2,k3⟩:=hb
  exact ⟨r,K,fun St a w hr=>k1 St a w (cv hr),k2,fun St a w hr=>k3 St a w (cv hr)⟩
 | _=>exact hb
section
variable {P:Program} {G:Gh} {o:Oper} {env:List (Nat×CV)} {b0:Nat→CV} {H:List (Option Nat×Res)} {K:AS→Prop}
theorem m_callHV {f:FuncId} {v:Operand} {n:Nat} {fv:Nat→CV} {xs:Array Operand} {ats:Array TypeId} {args:List CV} {Q:CV→List (Option Nat×Res)→Prop} {i:Nat} {x0:Option Nat×Res} (ho:o.op=.call ⟨.value v,xs,ats⟩) (hv:(⟨env,b0,H⟩:AS).eval v=.fn f n fv) (hc:calleeB P f=true) (hi:H[i]?=some x0) (hA:AC G.gs P f [x0] args Q)
  (he:EntL (xs.toList.map (⟨env,b0,H⟩:AS).eval++(List.range n).map fv) args) (hd:dstOk G o=true)
  (hK:∀ r H',Q r H'→∃ x,H'=[x]∧K ((⟨env,b0,H⟩:AS).with o.dst r (H.set i x))):AMd P G o ⟨env,b0,H⟩ K:=fun St a w hr Q'=>by
 obtain ⟨cs,hcs,hn,hf⟩:=evR hr hv
 unfold Oper.wp
 rw [exec_callv ho hc a hcs]
 have hl:=entL_len he
 simp at hl
 obtain ⟨fp,hp⟩:=hr.hp
 have hlt:i<H.length:=(List.getElem?_eq_some_iff.1 hi).1
 obtain ⟨g0,r0⟩:=x0
 have hent:Entry G.gs G.al St (fp i) [(g0,r0)] w:=by
  refine ⟨hr.s3,hr.sn,hr.sg,⟨fun j b=>j=0∧fp i b,fun j g r hj=>?_,fun j l b hj hl=>by omega,fun j b hj=>⟨(hp.own i b hj.2).1,(hp.own i b hj.2).2.1,.inr hj.2⟩,fun j hj b hb=>by simp at hj;omega⟩,fun b hb=>(hp.own i b hb).2.1⟩
  match j,hj with
  | 0,hj =>
   simp at hj
   obtain ⟨rfl,rfl⟩:=hj
   have e:(fun b=>(0:Nat)=0∧fp i b)=fp i:=funext fun b=>by simp
   show r0.rep G.al St w (fun b=>(0:Nat)=0∧fp i b) g0
   rw [e]
   exact hp.rep i g0 r0 hi
  | j+1,hj=>simp at hj
 refine (hA G.al w St _ _ hent (by simp [hn,hl]) (fun i=>?_)).mono ?_
 ·by_cases hi:i<args.length
  ·refine entL_get he i _ _ _ _ ?_
   rw [fl_append]
   by_cases h1:i<xs.size
   ·rw [if_pos (by simpa using h1),fl_get]
    simp [List.getD,h1,Array.getElem?_append_left]
    exact hr.eval _
   ·rw [if_neg (by simpa using h1),fl_get]
    have h2:i-xs.size<n:=by omega
    have:=hf _ h2
    simp [List.getD,h2,Array.getElem?_append_right (show (xs.map a.eval).size≤i by simp;omega)] at this ⊢
    exact this
  ·rw [fl_none args i (by omega)];trivial
 rintro e w' ⟨v,r,H',St',rfl,hq,hv,hu,h3,h4,h5,h6⟩
 obtain ⟨x,rfl,hk⟩:=hK r H' hq
 refine ⟨fun b hb=>hu.block b (hr.s3 b hb) fun hf=>(hp.own i b hf).2.1 hb,St',h3,_,hk,?_⟩
 have h7:=(hr.afterH hp hlt hu h3 h4 h5 h6).put (dst:=o.dst) (v:=r) (x:=v) (dst_of hd) hv
 cases ho:o.dst with
 | none=>rw [ho] at h7;exact h7
 | some d=>rw [ho] at h7;exact h7
end
end
section
open Go.RowKit
set_option maxHeartbeats 1000000
section
variable {P:Program} {G:Gh} {ops:Array Oper} {o:Oper} {s:AS} {K:AS→Prop} {t u:TypeId} {x y:Operand} {k:IntKind}
def AMx (P:Program) (G:Gh) (g:Option Nat) (o:Oper) (s:AS) (K:AS→Prop):Prop:=∀ St a w,RelSt G St s a w→∀ Q,o.wp P a w (fun a' w'=>(∀ q,q<w.heap.size→g≠some q→w'.heap[q]?=w.heap[q]?)∧∃ St',(∀ b,St b→St' b)∧∃ s',K s'∧RelSt G St' s' a' w') Q
theorem md_storeX {i off n m:Nat} {g:Option Nat} {f:Nat→CV} {c:CV} {l:List CV} (ho:o.op=.store t x y) (hx:s.eval x=.op i g off) (hH:s.H[i]?=some (g,.blk n f)) (hy:s.eval y=c) (hl:cellsC c=some l) (h5:(P.info? t).map (·.size)=some m) (hm:l.length=m) (hleaf:l.all leafC=true) (hn:off+m≤n)
  (F:Nat→CV) (hF:∀ j,j<n→CEnt (updF f off l j) (F j)) (hd:dstOk G o=true) (hK:K (s.with o.dst (.c undef) (s.H.set i (g,.blk n F)))):AMx P G g o s K:=fun St a w hr Q=>by
 obtain ⟨info,hi,h6⟩:=Option.map_eq_some_iff.1 h5
 obtain ⟨b,rfl,e⟩:=evR hr hx
 have hc:=cells_rep (evR hr hy) hl
 obtain ⟨fp,hp⟩:=hr.hp
 obtain ⟨h00,cur,ty,hh,hle,hcell⟩:=hp.rep i (some b) _ hH
 have hst:=run_storeCells_at P b off ty (a.eval y).cells.toList 0 cur w hh (by simp [hc.1];omega) (storeAll hc hleaf)
 simp only [Nat.add_zero] at hst
 have hrun:(execOp a.eval o).run P w=.ok .skip (w.setRow b (cur.toList.take off++(a.eval y).cells.toList++cur.toList.drop (off+(a.eval y).cells.toList.length)).toArray):=by
  simp only [execOp,ho,e]
  simp [Instr.storeAt,Instr.sureAddr,storeVar,sizeOf,typeInfo,hi,h6,hc.1,hm]
  rw [show (a.eval y).cells.toList.length=m by simp [hc.1,hm]] at hst
  simp [hst]
 unfold Oper.wp
 rw [hrun]
 have hlen:(a.eval y).cells.toList.length=m:=by simp [hc.1,hm]
 refine ⟨fun q _ hg=>setRow_other w b q _ (fun e=>hg (by rw [e])),St,fun _ h=>h,_,hK,?_⟩
 have hw:=hr.write hH hh (cs:=(cur.toList.take off++(a.eval y).cells.toList++cur.toList.drop (off+(a.eval y).cells.toList.length)).toArray) (by simp [hc.1];omega) (n':=n) (f':=F) (by simp [hc.1];omega) (fun j hj=>by
  refine hF j hj _ _ _ _ ?_
  rw [updF_get,row_at cur _ off (by rw [hlen];omega),hlen,hm]
  by_cases h1:off≤j∧j<off+m
  ·rw [if_pos h1,if_pos h1]
   have:=hc.2 (j-off) (by omega)
   simpa [List.getD] using this
  ·rw [if_neg h1,if_neg h1]
   exact hcell j hj)
 have:=hw.put (dst:=o.dst) (v:=.c undef) (x:=undef) (dst_of hd) rfl
 cases ho:o.dst with
 | none=>rw [ho] at this;exact this
 | some d=>rw [ho] at this;exact this

theorem md_appendX {e:TypeId} {z:Value} {i n m k N by_:Nat} {g:Option Nat} {f h:Nat→CV} (ho:o.op=.call ⟨.builtin .append,#[x,y],#[t,u]⟩) (hx:s.eval x=.os i g 0 n k) (hH:s.H[i]?=some (g,.blk N f)) (hN:n * k≤N)
  (hsrc:ASrc P G s y k m h) (h1:P.underlying t=some (.slice e)) (hu:notInt P u=true) (h5:(P.info? e).map (·.size)=some k) (hz:(P.info? e).map (·.zero)=some (some z)) (hby:(P.info? e).map (·.bytes)=some by_)
  (h63:n+m≤9223372036854775807) (h48:(n+m) * by_≤140737488355328) (hzk:z.cells.size=k)
  (F:Nat→CV) (hF:∀ j,j<(n+m) * k→CEnt (appF (n * k) f h j) (F j)) (hleaf:∀ j,j<m * k→leafC (h j)=true) (hd:dstOk G o=true)
  (hK:∀ g',K (s.with o.dst (.os i g' 0 (n+m) k) (s.H.set i (g',.blk ((n+m) * k) F)))):AMx P G g o s K:=fun St a w hr Q=>by
 obtain ⟨info,hi,hs⟩:=Option.map_eq_some_iff.1 h5
 obtain ⟨info',hi',hz⟩:=Option.map_eq_some_iff.1 hz
 obtain rfl:=Option.some.inj (hi.symm.trans hi')
 obtain ⟨info',hi',hby⟩:=Option.map_eq_some_iff.1 hby
 obtain rfl:=Option.some.inj (hi.symm.trans hi')
 obtain ⟨news,hnl,hnr,hrun⟩:=hsrc St a w hr
 have he:=evR hr hx
 have hlen:(n+m) * k=n * k+m * k:=Nat.add_mul ..
 -- the value's parts
 obtain ⟨base,cap,ev,hle,hcap,hbase⟩:∃ base cap,a.eval x=.slice base n cap∧n≤cap∧cap≤9223372036854775807∧((g=none∧base=none∧cap=0∧n=0)∨∃ b,g=some b∧base=some ⟨b,0,none⟩∧∃ cur t z,w.heap[b]?=some (.cells cur t z)∧0+cap * k≤cur.size):=by
  cases g with
  | none=>obtain ⟨h1,h2⟩:=he;exact ⟨none,0,by rw [h2,h1],by omega,by omega,.inl ⟨rfl,rfl,rfl,h1⟩⟩
  | some b=>obtain ⟨cap,h1,h2,h3,h4⟩:=he;exact ⟨_,cap,h1,h2,h3,.inr ⟨b,rfl,rfl,h4⟩⟩
 have hargs:(#[x,y]:Array Operand).map a.eval=#[a.eval x,a.eval y]:=by simp
 have put:∀ {w':World} {v:Value} {c:CV} {H:List (Option Nat×Res)},RelSt G St ⟨s.env,s.b,H⟩ a w'→RepC G.al St w' c v→RelSt G St (s.with o.dst c H) (a.put o.dst v) w':=fun {w' v c H} h1 h2=>by
  have:=h1.put (dst:=o.dst) (dst_of hd) h2
  cases ho:o.dst with
  | none=>rw [ho] at this;exact this
  | some d=>rw [ho] at this;exact this
 by_cases hroom:n+m≤cap
 ·-- in place
  rcases hbase with ⟨hg,hb,hc0,hn0⟩|⟨b,hg,hb,cu,tt,zz,hcu,hfit⟩
  ·subst hg hb
   have hm0:m=0:=by omega
   subst hm0
   have hrun':=run_app_room (t:=t) (u:=u) (ty:=o.type) h1 hu hi hs (hrun w rfl).1 (hrun w rfl).2 hroom (base:=none) (w':=w) (fun _ h=>by simp at h) (fun _=>rfl)
   unfold Oper.wp
   rw [exec_append ho (by rw [hargs,ev];exact hrun')]
   refine ⟨fun _ _ _=>rfl,St,fun _ h=>h,_,hK none,?_⟩
   have hlt:=(List.getElem?_eq_some_iff.1 hH).1
   have hmv:RelSt G St ⟨s.env,s.b,s.H.set i (none,.blk ((n+0) * k) F)⟩ a w:=by
    refine ⟨hr.df,hr.sz,hr.env,hr.un,hr.s1,hr.s2,hr.s3,?_,hr.sn,hr.sg⟩
    obtain ⟨fp,hp⟩:=hr.hp
    refine ⟨fp,fun j q r hj=>?_,hp.dis,hp.own,fun j hj=>hp.out j (by simpa using hj)⟩
    by_cases hj2:j=i
    ·subst hj2
     simp [hlt] at hj
     obtain ⟨rfl,rfl⟩:=hj
     exact ⟨by simp [hn0],(hp.rep j none _ hH).2⟩
    ·rw [List.getElem?_set_ne (Ne.symm hj2)] at hj
     exact hp.rep j q r hj
   exact put hmv ⟨by omega,by rw [hn0,hc0]⟩
  ·subst hg hb
   obtain ⟨fp,hp⟩:=hr.hp
   obtain ⟨hb0,cur,ty,hh,hle2,hcell⟩:=hp.rep i (some b) _ hH
   have hq:=Option.some.inj (hcu.symm.trans hh)
   injection hq with e1 e2 e3
   have hfit:0+cap * k≤cur.size:=e1 ▸ hfit
   have hfit2:n * k+news.length≤cur.size:=by
    rw [hnl,← hlen]
    exact Nat.le_trans (Nat.mul_le_mul_right _ hroom) (by omega)
   have hone:∀ v ∈ news,v.oneCell'=true:=fun v hv=>by
    obtain ⟨j,hj,e⟩:=List.mem_iff_getElem.1 hv
    have h2:=hnr j (by omega)
    rw [show news.getD j undef=v by simp [List.getD,hj,e]] at h2
    exact leaf_one (hleaf j (by omega)) h2
   have hst:=run_storeCells_at P b (n * k) ty news 0 cur w hh (by simpa using hfit2) hone
   simp only [Nat.add_zero] at hst
   have hrun':=run_app_room (t:=t) (u:=u) (ty:=o.type) h1 hu hi hs (hrun w rfl).1 (hrun w rfl).2 hroom (base:=some ⟨b,0,none⟩) (w':=w.setRow b (cur.toList.take (n * k)++news++cur.toList.drop (n * k+news.length)).toArray) (fun ad h=>by
    have h:=Option.some.inj h
    subst h
    rw [addr_add,Nat.zero_add]
    exact hst) (fun h=>by simp at h)
   unfold Oper.wp
   rw [exec_append ho (by rw [hargs,ev];exact hrun')]
   refine ⟨fun q _ hg=>setRow_other w b q _ (fun e=>hg (by rw [e])),St,fun _ h=>h,_,hK (some b),?_⟩
   have hw:=hr.write hH hh (cs:=(cur.toList.take (n * k)++news++cur.toList.drop (n * k+news.length)).toArray) (by simp;omega) (n':=(n+m) * k) (f':=F) (by simp;omega) (fun j hj=>by
    refine hF j hj _ _ _ _ ?_
    rw [row_at cur news (n * k) hfit2]
    unfold appF
    by_cases h3:j<n * k
    ·rw [if_pos h3,if_neg (by omega)];exact hcell j (by omega)
    ·rw [if_neg h3,if_pos (by omega)];exact hnr _ (by omega))
   refine put hw ⟨cap,rfl,hroom,hcap,?_⟩
   exact ⟨_,_,_,setRow_heap w b cur _ _ _ hh,by simp;omega⟩
 ·-- a new row
  have hroom:cap<n+m:=by omega
  obtain ⟨olds,hol,hor,horun⟩:SrcAt P G.al St w (.slice base n cap) k n f:=by
   rcases hbase with ⟨hg,hb,hc0,hn0⟩|⟨b,hg,hb,_⟩
   ·subst hb hn0 hc0;exact src_none
   ·subst hg hb
    obtain ⟨_,cur,tt,zz,hh,hle,hc⟩:=blkCells hr hH
    refine src_cells (g:=fun j=>cur.getD j undef) fun j hj=>⟨?_,hc j (by omega)⟩
    have hlt:j<cur.size:=by omega
    rw [Nat.zero_add,cell_of_row w b j cur tt zz hh];simp [hlt]
  have hrun':=run_app_grow (t:=t) (u:=u) (ty:=o.type) h1 hu hi hs hz (fun W hW=>(hrun W hW).1) (fun W hW=>(horun W hW).2) (fun W hW=>(hrun W hW).2) hroom h63 (by rw [hby];exact h48)
  unfold Oper.wp
  rw [exec_append ho (by rw [hargs,ev];exact hrun')]
  refine ⟨fun q hq _=>(below_drewAlloc w _).block q hq,St,fun _ h=>h,_,hK (some w.heap.size),?_⟩
  have hgc:n+m≤grownCap w (n+m) cap e∧grownCap w (n+m) cap e≤9223372036854775807:=by
   have hlt:=Nat.mod_lt (w.tape w.drawn (.appendCap (n+m) cap e)) (show 0<2 ^ 63-(n+m) by omega)
   simp only [grownCap,Question.cut]
   omega
  have hcell0:(w.drew.alloc (.cells (olds.toArray++news.toArray++Builtin.zeroCells z.cells (grownCap w (n+m) cap e-(n+m))) e)).heap[w.heap.size]?=some (.cells (olds.toArray++news.toArray++Builtin.zeroCells z.cells (grownCap w (n+m) cap e-(n+m))) e (0,0)):=heap_alloc_new w.drew _
  have hsize:(olds.toArray++news.toArray++Builtin.zeroCells z.cells (grownCap w (n+m) cap e-(n+m))).size=grownCap w (n+m) cap e * k:=by
   simp [Builtin.zeroCells,hol,hnl,hzk]
   rw [← Nat.add_mul,← Nat.add_mul]
   congr 1
   omega
  have hEvo:Evo St w (w.drew.alloc (.cells (olds.toArray++news.toArray++Builtin.zeroCells z.cells (grownCap w (n+m) cap e-(n+m))) e)):=Evo.of_below (below_drewAlloc w _) hr.s3
  have hfr:=hr.fresh (below_drewAlloc w _) (Nat.le_refl _) hcell0 (n:=(n+m) * k) (f:=F) (by rw [hsize];exact Nat.mul_le_mul_right _ hgc.1) (fun j hj=>by
   refine hF j hj _ _ _ _ (RepC.evo hEvo (fun _ x=>x) _ _ ?_)
   unfold appF
   rw [row_app olds news _ j (by omega),hol]
   by_cases h3:j<n * k
   ·rw [if_pos h3,if_pos h3];exact hor j h3
   ·rw [if_neg h3,if_neg h3];exact hnr (j-n * k) (by omega))
  have hkl:=hfr.move ((List.getElem?_eq_some_iff.1 hH).1)
  refine put hkl ⟨_,rfl,hgc.1,hgc.2,_,_,_,hcell0,?_⟩
  rw [hsize]
  omega
end
section
variable {P:Program} {G:Gh} {ops:Array Oper} {o:Oper} {env:List (Nat×CV)} {b0:Nat→CV} {H:List (Option Nat×Res)} {K:AS→Prop} {t u:TypeId} {p q:Operand}
theorem m_storeX {i off n m:Nat} {g:Option Nat} {f:Nat→CV} {c:CV} {l:List CV} (ho:o.op=.store t p q) (hx:(⟨env,b0,H⟩:AS).eval p=.op i g off) (hH:H[i]?=some (g,.blk n f)) (hy:(⟨env,b0,H⟩:AS).eval q=c) (hl:cellsC c=some l) (h5:(P.info? t).map (·.size)=some m) (hm:l.length=m) (hleaf:l.all leafC=true) (hn:off+m≤n)
  (F:Nat→CV) (hF:∀ j,j<n→CEnt (updF f off l j) (F j)) (hd:o.dst=none) (hK:K ⟨env,b0,H.set i (g,.blk n F)⟩):AMx P G g o ⟨env,b0,H⟩ K :=
 md_storeX ho hx hH hy hl h5 hm hleaf hn F hF (dst_n hd) (by rw [with_none hd];exact hK)
theorem m_appendX {e:TypeId} {z:Value} {i n m k N by_ n' N' d:Nat} {g:Option Nat} {f h:Nat→CV} (ho:o.op=.call ⟨.builtin .append,#[p,q],#[t,u]⟩) (hx:(⟨env,b0,H⟩:AS).eval p=.os i g 0 n k) (hH:H[i]?=some (g,.blk N f)) (hN:n * k≤N)
  (hsrc:ASrc P G ⟨env,b0,H⟩ q k m h) (h1:P.underlying t=some (.slice e)) (hu:notInt P u=true) (h5:(P.info? e).map (·.size)=some k) (hz:(P.info? e).map (·.zero)=some (some z)) (hby:(P.info? e).map (·.bytes)=some by_)
  (h63:n+m≤9223372036854775807) (h48:(n+m) * by_≤140737488355328) (hzk:z.cells.size=k)
  (F:Nat→CV) (hF:∀ j,j<(n+m) * k→CEnt (appF (n * k) f h j) (F j)) (hleaf:∀ j,j<m * k→leafC (h j)=true) (hd:o.dst=some d) (hdN:Nat.blt d G.N=true) (hn':n+m=n') (hN':(n+m) * k=N')
  (hK:∀ g',K ⟨(d,.os i g' 0 n' k)::env,b0,H.set i (g',.blk N' F)⟩):AMx P G g o ⟨env,b0,H⟩ K :=
 md_appendX ho hx hH hN hsrc h1 hu h5 hz hby h63 h48 hzk F hF hleaf (dst_s hd hdN) fun g'=>by subst hn';subst hN';rw [with_some hd];exact hK g'
theorem m_appendCX {α:Type} {C:List α→Nat→CV} {k:Nat} (hC:RowC k C) {e:TypeId} {z:Value} {i n N N' by_ d:Nat} {t u:TypeId} {p q:Operand} {env:List (Nat×CV)} {b0:Nat→CV} {H:List (Option Nat×Res)} {K:AS→Prop} {g:Option Nat} {f h:Nat→CV} {l l2:List α} {m:Nat} (ho:o.op=.call ⟨.builtin .append,#[p,q],#[t,u]⟩) (hx:(⟨env,b0,H⟩:AS).eval p=.os i g 0 n k) (hn:n=l.length) (hH:H[i]?=some (g,.blk N f)) (hN:l.length * k≤N) (hf:∀ j,j<l.length * k→CEnt (f j) (C l j))
  (hsrc:ASrc P G ⟨env,b0,H⟩ q k m h) (hm:m=l2.length) (hh:∀ j,j<l2.length * k→CEnt (h j) (C l2 j)) (h1:P.underlying t=some (.slice e)) (hu:notInt P u=true) (h5:(P.info? e).map (·.size)=some k) (hz:(P.info? e).map (·.zero)=some (some z)) (hby:(P.info? e).map (·.bytes)=some by_) (hzk:z.cells.size=k)
  (h63:l.length+l2.length≤9223372036854775807) (h48:(l.length+l2.length) * by_≤140737488355328) (hleaf:∀ j,j<m * k→leafC (h j)=true) (hd:o.dst=some d) (hdN:Nat.blt d G.N=true) (hN':(l++l2).length * k=N')
  (hK:∀ g',K ⟨(d,.os i g' 0 (l++l2).length k)::env,b0,H.set i (g',.blk N' (C (l++l2)))⟩):AMx P G g o ⟨env,b0,H⟩ K:=by
 subst hm hn
 refine m_appendX ho hx hH hN hsrc h1 hu h5 hz hby h63 h48 hzk (C (l++l2)) (fun j hj=>?_) hleaf hd hdN List.length_append.symm (by rw [← List.length_append];exact hN') hK
 rw [← hC l l2 j hj]
 unfold appF
 split
 ·rename_i h;exact hf j h
 ·rename_i h
  refine hh _ ?_
  rw [Nat.add_mul] at hj
  omega
end
section
variable {P:Program} {G:Gh} {ops:Array Oper} {o:Oper} {s:AS} {K:AS→Prop} {n:Nat} {R:Exit→AS→Prop}
def AZL (P:Program) (G:Gh) (ops:Array Oper) (n:Nat) (t:OrdO) (s:AS) (K:AS→Prop):Prop :=
 ∀ St a w,RelSt G St s a w→∀ Q:Exit→Act→World→Prop,(∀ s' a' w',K s'→Rel G s' a' w'→Q .normal a' w')→∃ St':Nat→Prop,(∀ b,St b→St' b)∧wpXS P ops Q (fun b=>St' b∨b=n) t a w
theorem zl_done (h:K s):AZL P G ops n .done s K:=fun St _ _ hr _ hQ=>⟨St,fun _ h=>h,hQ _ _ _ h ⟨_,hr⟩⟩
theorem zl_rd {t:OrdO} {v:CV} (hw:Wanted G ops o s true) (hd:dstOk G o=true) (h:ARd P G o s v) (hk:AZL P G ops n t (s.put o.dst v) K):AZL P G ops n (.rd o t) s K:=fun St a w hr Q hQ=>by
 obtain ⟨x,hx,hv⟩:=h St a w hr
 obtain ⟨St',hs,h2⟩:=hk _ _ _ (hr.put (dst_of hd) hv) Q hQ
 exact ⟨St',hs,x,.inl (YieldsS.grow (S:=St) (fun b hb=>.inl (hs b hb)) (.inl ⟨hw St a w hr,fun W hW=>hx W hW⟩)),h2⟩
theorem zl_rdO {t:OrdO} {v:CV} (hw:Wanted G ops o s true) (hd:dstOk G o=true) (hb:ownB ops o=true) (h:ARdO P G o s v) (hk:AZL P G ops n t (s.put o.dst v) K):AZL P G ops n (.rd o t) s K:=fun St a w hr Q hQ=>by
 obtain ⟨x,hx,hv⟩:=h St a w hr
 obtain ⟨St',hs,h2⟩:=hk _ _ _ (hr.put (dst_of hd) hv) Q hQ
 exact ⟨St',hs,x,.inr ⟨hb,.inl ⟨hw St a w hr,fun W hW=>hx W hW⟩⟩,h2⟩
def ARdL (P:Program) (G:Gh) (n:Nat) (o:Oper) (s:AS) (v:CV):Prop:=∀ St a w,RelSt G St s a w→∃ x,(∀ W:World,W.heap[n]?=w.heap[n]?→(execOp a.eval o).run P W=.ok (.value x) W)∧RepC G.al St w v x
theorem zl_rdL {t:OrdO} {v:CV} (hw:Wanted G ops o s true) (hd:dstOk G o=true) (h:ARdL P G n o s v) (hk:AZL P G ops n t (s.put o.dst v) K):AZL P G ops n (.rd o t) s K:=fun St a w hr Q hQ=>by
 obtain ⟨x,hx,hv⟩:=h St a w hr
 obtain ⟨St',hs,h2⟩:=hk _ _ _ (hr.put (dst_of hd) hv) Q hQ
 exact ⟨St',hs,x,.inl (.inl ⟨hw St a w hr,fun W hW=>hx W (hW n (.inr rfl))⟩),h2⟩
theorem lent_own {St:Nat→Prop} {a:Act} {w:World} {j m:Nat} {f:Nat→CV} (hr:RelSt G St s a w) (hj:s.H[j]?=some (some n,.blk m f)):n<w.heap.size∧¬ St n:=by
 obtain ⟨fp,hp⟩:=hr.hp
 have:=hp.own j n (((hp.rep j (some n) _ hj).1 n).2 rfl)
 exact ⟨this.1,this.2.1⟩
theorem lent_ne {St:Nat→Prop} {a:Act} {w:World} {i j m N:Nat} {g:Option Nat} {f F:Nat→CV} (hr:RelSt G St s a w) (hj:s.H[j]?=some (some n,.blk m f)) (hi:s.H[i]?=some (g,.blk N F)) (hij:i≠j):g≠some n:=by
 rintro rfl
 obtain ⟨fp,hp⟩:=hr.hp
 exact hij (hp.dis i j n (((hp.rep i (some n) _ hi).1 n).2 rfl) (((hp.rep j (some n) _ hj).1 n).2 rfl))
theorem zl_md {t:OrdO} {i j m N:Nat} {g:Option Nat} {f F:Nat→CV} (hw:Wanted G ops o s true) (hm:isMod o=true) (hj:s.H[j]?=some (some n,.blk m f)) (hi:s.H[i]?=some (g,.blk N F)) (hij:i≠j) (h:AMx P G g o s (fun s'=>AZL P G ops n t s' K)):AZL P G ops n (.one o t) s K:=fun St a w hr Q hQ=>by
 refine ⟨St,fun _ h=>h,?_⟩
 unfold wpXS
 rw [if_pos (hw St a w hr)]
 have hn:=lent_own hr hj
 have hg:=lent_ne hr hj hi hij
 refine Oper.wp_mono (fun a' w' ⟨hb,St',hs,s',h1,h2⟩=>?_) (h St a w hr Q)
 obtain ⟨St2,hs2,h3⟩:=h1 St' a' w' h2 Q hQ
 refine ⟨⟨fun b hb'=>?_,fun h=>by rw [Option.any_some,hm] at h;cases h⟩,_,fun b hb=>hb.imp (fun h=>hs2 b (hs b h)) id,h3⟩
 rcases hb' with hb'|rfl
 ·refine hb b (hr.s3 b hb') ?_
  rintro rfl
  obtain ⟨fp,hp⟩:=hr.hp
  exact (hp.own i b (((hp.rep i (some b) _ hi).1 b).2 rfl)).2.1 hb'
 ·exact hb b hn.1 hg
theorem zl_ex {t:OrdO} {j m:Nat} {f:Nat→CV} (hw:Wanted G ops o s true) (hj:s.H[j]?=some (some n,.blk m f)) (h:AEx P G o s (fun s'=>AZL P G ops n t s' K)):AZL P G ops n (.one o t) s K:=fun St a w hr Q hQ=>by
 refine ⟨St,fun _ h=>h,?_⟩
 unfold wpXS
 rw [if_pos (hw St a w hr)]
 have hn:=lent_own hr hj
 refine Oper.wp_mono (fun a' w' ⟨hb,St',hs,s',h1,h2⟩=>?_) (h St a w hr Q)
 obtain ⟨St2,hs2,h3⟩:=h1 St' a' w' h2 Q hQ
 refine ⟨⟨fun b hb'=>?_,fun _=>hb⟩,_,fun b hb=>hb.imp (fun h=>hs2 b (hs b h)) id,h3⟩
 rcases hb' with hb'|rfl
 ·exact hb.block b (hr.s3 b hb')
 ·exact hb.block b hn.1
theorem zl_two {p:Oper} {t u:OrdO} (h1:AZL P G ops n (.one o t) s K) (h2:AZL P G ops n (.one p u) s K):AZL P G ops n (.two o t p u) s K:=fun St a w hr Q hQ=>by
 obtain ⟨S1,hs1,h3⟩:=h1 St a w hr Q hQ
 obtain ⟨S2,hs2,h4⟩:=h2 St a w hr Q hQ
 have h3:=wpXS_lower (S:=fun b=>St b∨b=n) (fun b hb=>hb.imp (hs1 b) id) h3
 have h4:=wpXS_lower (S:=fun b=>St b∨b=n) (fun b hb=>hb.imp (hs2 b) id) h4
 unfold wpXS at h3 h4
 exact ⟨St,fun _ h=>h,h3,h4⟩
theorem zl_ent {tr:OrdO} {s':AS} (he:EntS G s s') (h:AZL P G ops n tr s' K):AZL P G ops n tr s K:=fun St a w hr Q hQ=>by
 obtain ⟨S1,h1,h2⟩:=he St a w hr
 obtain ⟨S2,h3,h4⟩:=h S1 a w h2 Q hQ
 exact ⟨S2,fun b hb=>h3 b (h1 b hb),h4⟩
theorem code_drawL {id:Nat} (n:Nat) (u:Ord) (hmix:P.follows .mixedOrders=true) (hs:Region.noSelect ops=true) (hul:u.len=ops.size) (huin:u.within ops.size=true) (hu:orderT .any ops u (Array.replicate ops.size false)=true)
  (h:AZL P G ops n (opsOfT ops u) s (R .normal)) (hd:rdB G.rd ops=true:=by rfl):ACode P G (.region id ops true) s R:=fun a w ⟨St,hr⟩ Q hQ =>
 let ⟨_,_,h5⟩:=h St a w.drew (hr.ext (below_drew1 w)) (NoPanic (OnlyN Q)) (fun s'' a'' w'' h3 h4=>NoPanic.normal (hQ .normal s'' a'' w'' h3 h4))
 wpIn_any hd hmix (any_S u hs hul huin hu h5)
theorem rd_loadL {t:TypeId} {x:Operand} {d:TypeDesc} {i off N:Nat} {f:Nat→CV} {v:CV} (ho:o.op=.load t x) (hx:s.eval x=.op i (some n) off) (hH:Holds s i (some n) N f) (h1:P.underlying t=some d) (ha:aggB P t=false) (hn:off<N) (hv:f off=v):ARdL P G n o s v:=fun St a w h=>by
 obtain ⟨b,hb,e⟩:=evR h hx
 cases hb
 obtain ⟨hg,cur,ty,z,hh,hle,hc⟩:=holdCells h hH
 have hlt:off<cur.size:=by omega
 have hcell:w.cell? ⟨n,off,none⟩=some (cur.getD off undef):=by
  rw [cell_of_row w n off cur ty z hh];simp [hlt]
 refine ⟨_,fun W hW=>exec_load ho e (run_loadVar1 h1 ha ?_),hv ▸ hc off hn⟩
 exact (cell_of_block hW off).trans hcell
end
section
variable {P:Program} {G:Gh} {ops:Array Oper} {o:Oper} {s:AS} {env:List (Nat×CV)} {b0:Nat→CV} {H:List (Option Nat×Res)} {K:AS→Prop} {i n:Nat} {t:Ord} {R:Exit→AS→Prop}
theorem jlrd {t:TypeId} {x:Operand} {i off N:Nat} {f:Nat→CV} {v:CV} (ho:o.op=.load t x:=by exact rfl) (hx:s.eval x=.op i (some n) off:=by exact rfl) (hH:Holds s i (some n) N f:=by first|exact .inl rfl|exact .inr rfl) (hv:f off=v:=by first|exact jflO_eq rfl|exact jfz_eq rfl) (hn:off<N:=by first|decide|omega|(dsimp only at *;omega)) (hT:jldQ P t=true:=by kernel_rfl):ARdL P G n o s v:=by
 obtain ⟨d,h1,ha⟩:=jldQ_ok hT
 exact rd_loadL ho hx hH h1 ha hn hv
theorem jLL {d:Nat} {v:CV} (h:ARdL P G n (jopG ops.toList i) ⟨env,b0,H⟩ v) (hk:AZL P G ops n (opsOfT ops t) ⟨(d,v)::env,b0,H⟩ K) (hd:(jopG ops.toList i).dst=some d:=by exact rfl) (hN:Nat.blt d G.N=true:=by exact rfl) (hw:Wanted G ops (jopG ops.toList i) ⟨env,b0,H⟩ true:=by first|exact wanted_none rfl|exact wanted_is rfl rfl rfl rfl true rfl) (hi:Nat.blt i ops.size=true:=by exact rfl):AZL P G ops n (opsOfT ops (.rd i t)) ⟨env,b0,H⟩ K:=by
 rw [joT_rd hi]
 exact zl_rdL hw (by simp only [dstOk,hd];exact hN) h (by simp only [AS.put,hd];exact hk)
theorem jLq {d:Nat} {v:CV} (h:ARd P G (jopG ops.toList i) ⟨env,b0,H⟩ v) (hk:AZL P G ops n (opsOfT ops t) ⟨(d,v)::env,b0,H⟩ K) (hd:(jopG ops.toList i).dst=some d:=by exact rfl) (hN:Nat.blt d G.N=true:=by exact rfl) (hw:Wanted G ops (jopG ops.toList i) ⟨env,b0,H⟩ true:=by first|exact wanted_none rfl|exact wanted_is rfl rfl rfl rfl true rfl) (hi:Nat.blt i ops.size=true:=by exact rfl):AZL P G ops n (opsOfT ops (.rd i t)) ⟨env,b0,H⟩ K:=by
 rw [joT_rd hi]
 exact zl_rd hw (by simp only [dstOk,hd];exact hN) h (by simp only [AS.put,hd];exact hk)
theorem jLo {d:Nat} {v:CV} (h:ARdO P G (jopG ops.toList i) ⟨env,b0,H⟩ v) (hk:AZL P G ops n (opsOfT ops t) ⟨(d,v)::env,b0,H⟩ K) (hd:(jopG ops.toList i).dst=some d:=by exact rfl) (hN:Nat.blt d G.N=true:=by exact rfl) (hw:Wanted G ops (jopG ops.toList i) ⟨env,b0,H⟩ true:=by first|exact wanted_none rfl|exact wanted_is rfl rfl rfl rfl true rfl) (hb:ownB ops (jopG ops.toList i)=true:=by kernel_rfl) (hi:Nat.blt i ops.size=true:=by exact rfl):AZL P G ops n (opsOfT ops (.rd i t)) ⟨env,b0,H⟩ K:=by
 rw [joT_rd hi]
 exact zl_rdO hw (by simp only [dstOk,hd];exact hN) hb h (by simp only [AS.put,hd];exact hk)
theorem jLe (j:Nat) {m:Nat} {f:Nat→CV} (h:AEx P G (jopG ops.toList i) ⟨env,b0,H⟩ (fun s'=>AZL P G ops n (opsOfT ops t) s' K)) (hj:H[j]?=some (some n,.blk m f):=by exact rfl) (hw:Wanted G ops (jopG ops.toList i) ⟨env,b0,H⟩ true:=by first|exact wanted_none rfl|exact wanted_is rfl rfl rfl rfl true rfl) (hi:Nat.blt i ops.size=true:=by exact rfl):AZL P G ops n (opsOfT ops (.one i t)) ⟨env,b0,H⟩ K:=by rw [joT_one hi];exact zl_ex hw hj h
theorem jLm (j i0:Nat) {m N:Nat} {g:Option Nat} {f F:Nat→CV} (h:AMx P G g (jopG ops.toList i) ⟨env,b0,H⟩ (fun s'=>AZL P G ops n (opsOfT ops t) s' K)) (hj:H[j]?=some (some n,.blk m f):=by exact rfl) (h0:H[i0]?=some (g,.blk N F):=by exact rfl) (hij:i0≠j:=by decide) (hw:Wanted G ops (jopG ops.toList i) ⟨env,b0,H⟩ true:=by first|exact wanted_none rfl|exact wanted_is rfl rfl rfl rfl true rfl) (hm:isMod (jopG ops.toList i)=true:=by exact rfl) (hi:Nat.blt i ops.size=true:=by exact rfl):AZL P G ops n (opsOfT ops (.one i t)) ⟨env,b0,H⟩ K:=by rw [joT_one hi];exact zl_md hw hm hj h0 hij h
theorem jLd (h:K s):AZL P G ops n (opsOfT ops .done) s K:=zl_done h
theorem jLtwo {j:Nat} {u:Ord} (h1:AZL P G ops n (opsOfT ops (.one i t)) s K) (h2:AZL P G ops n (opsOfT ops (.one j u)) s K) (hi:Nat.blt i ops.size=true:=by exact rfl) (hj:Nat.blt j ops.size=true:=by exact rfl):AZL P G ops n (opsOfT ops (.two i t j u)) s K:=by
 rw [joT_one hi] at h1
 rw [joT_one hj] at h2
 simp only [opsOfT,jopG_at hi,jopG_at hj]
 exact zl_two h1 h2
theorem jmstFX (m:Nat) (F:Nat→CV) {t:TypeId} {p q:Operand} {i off n:Nat} {g:Option Nat} {f:Nat→CV} {c:CV} {l:List CV} (hF:∀ j,j<n→CEnt (updF f off l j) (F j)) (hK:K ⟨env,b0,H.set i (g,.blk n F)⟩) (ho:o.op=.store t p q:=by exact rfl) (hx:(⟨env,b0,H⟩:AS).eval p=.op i g off:=by exact rfl) (hH:H[i]?=some (g,.blk n f):=by exact rfl) (hy:(⟨env,b0,H⟩:AS).eval q=c:=by first|exact jev_t rfl|exact jev_l rfl rfl rfl|exact jev_f rfl) (hl:cellsC c=some l:=by exact rfl) (hm:l.length=m:=by exact rfl) (h5:(P.info? t).map (·.size)=some m:=by kernel_rfl) (hleaf:l.all leafC=true:=by exact rfl) (hn:off+m≤n:=by first|decide|omega|(dsimp only at *;omega)) (hd:o.dst=none:=by exact rfl):AMx P G g o ⟨env,b0,H⟩ K :=
 m_storeX ho hx hH hy hl h5 hm hleaf hn F hF hd hK
theorem jcdL {id:Nat} (n:Nat) (u:Ord) (h:AZL P G ops n (opsOfT ops u) s (R .normal)) (hmix:P.follows .mixedOrders=true:=by kernel_rfl) (hs:Region.noSelect ops=true:=by kernel_rfl) (hul:u.len=ops.size:=by exact rfl) (huin:u.within ops.size=true:=by kernel_rfl) (hu:orderT .any ops u (Array.replicate ops.size false)=true:=by kernel_rfl) (hd:rdB G.rd ops=true:=by rfl):ACode P G (.region id ops true) s R:=code_drawL n u hmix hs hul huin hu h hd
end
end
section
variable {gs:List Nat} [Ok9 gs]
open Go.RowKit

theorem clone8_ac {gs:List Nat} (l:List UInt8) (hl:l.length≤100000000000):ACp gs Tryz.prog 66 [bsC l] (bsC l):=by
 refine ac_of 8 Tryz.func66 rfl rfl rfl (fun al w0 F0 St0=>?_)
 refine jcr ?_;refine jq jrm ?_;refine jN ?_;refine jcs ?_;refine jcr ?_;refine jq jrm ?_;refine seq_eqNil (wanted_none rfl) rfl rfl rfl Tryz.underlying22 rfl rfl (fun h357=>?_) ?_
 ·refine jN ?_;refine jcT ?_;refine jcr ?_;refine jq jrm ?_;refine jN ?_
  refine jR (jtr (jrt (hv:=CEnt.nilS' h357)))
 ·refine jN ?_;refine jcF ?_
  refine jS (jtn ?_)
  refine jcr ?_
  refine jqe (jebl 0 1 zr5 fun p1=>?_)
  refine jq jrm ?_
  first|refine jqm (m_appendB (l:=[]) rfl rfl rfl (Nat.zero_le _) (fun j hj=>absurd hj (Nat.not_lt_zero j)) (src_rs rfl) rfl (fun j hj=>by simp only [Nat.div_one];exact cZ) Tryz.underlying22 nu22 sz5 zr5 by5 rfl (by (simp;omega)) (fun j hj=>rfl) rfl rfl (fun p2=>?_))|refine jqm (m_appendB (l:=[]) rfl rfl rfl (Nat.zero_le _) (fun j hj=>absurd hj (Nat.not_lt_zero j)) (src_str rfl) rfl (fun j hj=>cZ) Tryz.underlying22 nu22 sz5 zr5 by5 rfl (by first|omega|(simp;done)|(simp;omega)|(simp at *;omega)) (fun j hj=>rfl) rfl rfl (fun p2=>?_))|refine jqm (m_appendB (l:=[]) rfl rfl rfl (Nat.zero_le _) (fun j hj=>absurd hj (Nat.not_lt_zero j)) (src_os rfl (.inl rfl) (by omega)) rfl (fun j hj=>by rw [Nat.zero_add];exact cZ) Tryz.underlying22 nu22 sz5 zr5 by5 rfl (by first|omega|(simp;done)|(simp;omega)|(simp at *;omega)) (fun j hj=>rfl) rfl rfl (fun p2=>?_))
  refine jq jrm ?_;refine jN ?_;refine jE (freeze 0 rfl) ?_;refine jE (thawB 2 ([]++l) rfl rfl (by rfl) rfl) ?_
  refine jR (jrt (hv:=CEnt.bs (List.nil_append l)))
theorem isNaN8_ac {gs:List Nat} (c:UInt8):ACp gs Tryz.prog 179 [.c (.int .u8 (c.toNat:Nat))] (.c (.bool false)):=by
 refine ac_of 6 Tryz.func179 rfl rfl rfl (fun al w0 F0 St0=>?_)
 refine jcr ?_;refine jq jrm ?_;refine jN ?_;refine jcr ?_;refine jq jrm ?_;refine jq jrm ?_;refine jq jrc ?_;refine jq jrm ?_;refine jN ?_
 refine jR (jrt (hv:=CEnt.bool (by simp)))
def cmp8 (a b:UInt8):Int:=if a.toNat<b.toNat then -1 else if b.toNat<a.toNat then 1 else 0
theorem cmp8_ac {gs:List Nat} (a b:UInt8):ACp gs Tryz.prog 158 [.c (.int .u8 (a.toNat:Nat)),.c (.int .u8 (b.toNat:Nat))] (.c (.int .i64 (cmp8 a b))):=by
 refine ac_of 20 Tryz.func158 rfl rfl rfl (fun al w0 F0 St0=>?_)
 refine jcr ?_;refine jq jrm ?_;refine jN ?_;refine jcr ?_;refine jq jrm ?_
 refine jqe (jecP (isNaN8_ac a) ?_)
 refine jq jrm ?_;refine jN ?_;refine jcr ?_;refine jq jrm ?_
 refine jqe (jecP (isNaN8_ac b) ?_)
 refine jq jrm ?_;refine jN ?_;refine jcs ?_;refine jcr ?_;refine jq jrm ?_;refine jN ?_;refine jcc (fun h43=>?_) fun h43=>?_
 ·refine jcs ?_;refine jcr ?_;refine jq jrm ?_;refine jN ?_;refine jcc (fun h44=>?_) fun h44=>?_
  ·refine jcr ?_;refine jq jrm ?_;refine jN ?_
   refine jR (jtr (jtr (jrt (hv:=?_))))
   (exfalso;simp at *;done)
  refine jS (jtn ?_)
  refine jcr ?_;refine jq jrm ?_;refine jN ?_
  refine jR (jtr (jrt (hv:=?_)))
  (exfalso;simp at *;done)
 refine jS (jtn ?_)
 refine jcs ?_;refine jcr ?_;refine jq jrm ?_;refine jN ?_;refine jcc (fun h49=>?_) fun h49=>?_
 ·refine jcr ?_;refine jq jrm ?_;refine jN ?_
  refine jR (jtr (jrt (hv:=?_)))
  (exfalso;simp at *;done)
 refine jS (jtn ?_)
 refine jcs ?_;refine jcr ?_;refine jq jrm ?_;refine jq jrm ?_;refine jq jrc ?_;refine jN ?_;refine jcc (fun h52=>?_) fun h52=>?_
 ·refine jcr ?_;refine jq jrm ?_;refine jN ?_
  refine jR (jtr (jrt (hv:=?_)))
  (refine CEnt.int ?_;unfold cmp8;split <;> omega)
 refine jS (jtn ?_)
 refine jcs ?_;refine jcr ?_;refine jq jrm ?_;refine jq jrm ?_;refine jq jrc ?_;refine jN ?_;refine jcc (fun h55=>?_) fun h55=>?_
 ·refine jcr ?_;refine jq jrm ?_;refine jN ?_
  refine jR (jtr (jrt (hv:=?_)))
  (refine CEnt.int ?_;unfold cmp8;split <;> omega)
 refine jS (jtn ?_)
 refine jcr ?_;refine jq jrm ?_;refine jN ?_
 refine jR (jrt (hv:=?_))
 (refine CEnt.int ?_;unfold cmp8;split <;> omega)
def cmpL:List UInt8→List UInt8→Int
 | [],[]=>0
 | [],_::_=>-1
 | _::_,[]=>1
 | a::l,b::r=>if cmp8 a b≠0 then cmp8 a b else cmpL l r
theorem cmpL_lt:∀ l r:List UInt8,decide (cmpL l r<0)=Op.bytesLess l r
 | [],[]=>by simp [cmpL,Op.bytesLess]
 | [],_::_=>by simp [cmpL,Op.bytesLess]
 | _::_,[]=>by simp [cmpL,Op.bytesLess]
 | a::l,b::r=>by
  have ih:=cmpL_lt l r
  rw [cmpL,Op.bytesLess,← ih]
  have h1:(a<b)↔a.toNat<b.toNat:=UInt8.lt_iff_toNat_lt
  have h2:(a=b)↔a.toNat=b.toNat:=UInt8.toNat_inj.symm
  rw [Bool.eq_iff_iff]
  simp only [decide_eq_true_eq,Bool.or_eq_true,Bool.and_eq_true,beq_iff_eq,h1,h2]
  by_cases h3:a.toNat<b.toNat
  ·simp [cmp8,h3]
  ·by_cases h4:b.toNat<a.toNat
   ·simp [cmp8,h3,h4]
    omega
   ·have h5:a.toNat=b.toNat:=by omega
    simp [cmp8,h5]
theorem cmpL_drop {l r:List UInt8} {i:Nat} (h1:i<l.length) (h2:i<r.length):cmpL (l.drop i) (r.drop i)=if cmp8 (l.getD i 0) (r.getD i 0)≠0 then cmp8 (l.getD i 0) (r.getD i 0) else cmpL (l.drop (i+1)) (r.drop (i+1)):=by
 rw [List.drop_eq_getElem_cons h1,List.drop_eq_getElem_cons h2,cmpL]
 simp [List.getD,h1,h2]
theorem compare8_ac {gs:List Nat} (l r:List UInt8):ACp gs Tryz.prog 135 [bsC l,bsC r] (.c (.int .i64 (cmpL l r))):=by
 refine ac_len 0 rfl fun hlen=>?_
 refine ac_of 36 Tryz.func135 rfl rfl rfl (fun al w0 F0 St0=>?_)
 refine jcr ?_;refine jq jrm ?_;refine jN ?_;refine jcs ?_;refine jcr ?_;refine jq jrm ?_;refine jq jrl ?_;refine jq jrm ?_;refine jN ?_;refine jB ?_;refine l_loop (α:=Nat) [4,5,6,7,8,11,12,13,14,15,16,17,18,19,20,21,22,23,24,25,26,27,28,29,30] (fun i=>[(11,.c (.int .i64 (i:Nat)))]) (fun _=>[]) (fun i=>i≤l.length∧i≤r.length∧cmpL (l.drop i) (r.drop i)=cmpL l r) (fun i=>l.length-i) (0) ?_ (fun _=>rfl) ?_ ?_ ?_
 ·exact ⟨by omega,by omega,rfl⟩
 ·(repeat (first|exact EntE.nil|refine EntE.cons cZ ?_|refine EntE.cons (CEnt.int (by omega)) ?_))
 ·(repeat (first|exact HEnt.nil|refine HEnt.same ?_|refine HEnt.blk rfl (fun j hj=>by rcases j with _|_|_|_|_|_|_|_|j <;> first|exact cZ|exact CEnt.int (by omega)|omega) ?_))
 ·rintro i ⟨hi,hj,he⟩
  refine jcr ?_;refine jq jrc ?_;refine jN ?_;refine jcs ?_;refine jcc (fun h58=>?_) fun h58=>?_
  rotate_left
  ·refine jX (jte (jte (jbx (jtn ?_))))
   refine jcs ?_;refine jcr ?_;refine jq jrm ?_;refine jq jrl ?_;refine jq jrm ?_;refine jq jrl ?_;refine jq jrc ?_;refine jN ?_;refine jcc (fun h67=>?_) fun h67=>?_
   ·refine jcr ?_;refine jq jrm ?_;refine jN ?_
    refine jR (jtr (jrt (hv:=?_)))
    refine CEnt.int ?_
    have h1:l.drop i=[]:=List.drop_eq_nil_of_le (by omega)
    rw [← he,h1]
    (rw [List.drop_eq_getElem_cons (show i<r.length by omega)];rfl)
   refine jS (jtn ?_)
   refine jcr ?_;refine jq jrm ?_;refine jN ?_
   refine jR (jrt (hv:=?_))
   refine CEnt.int ?_
   have h1:l.drop i=[]:=List.drop_eq_nil_of_le (by omega)
   rw [← he,h1]
   (rw [List.drop_eq_nil_of_le (show r.length≤i by omega)];rfl)
  refine jS (jtn ?_)
  refine jcs ?_;refine jB ?_;refine jcr ?_;refine jq jrm ?_;refine jq jri ?_;refine jq jrdr ?_;refine jq jrm ?_;refine jq jrm ?_;refine jN ?_;refine jcs ?_;refine jcr ?_;refine jq jrm ?_;refine jq jrm ?_;refine jq jrl ?_;refine jq jrc ?_;refine jN ?_;refine jcc (fun h59=>?_) fun h59=>?_
  ·refine jcr ?_;refine jq jrm ?_;refine jN ?_
   refine jR (jtr (jbr (jtr (jtr (jbr (jtr (jrt (hv:=?_))))))))
   refine CEnt.int ?_
   have:r.drop i=[]:=List.drop_eq_nil_of_le (by omega)
   rw [← he,this,List.drop_eq_getElem_cons (by omega)]
   rfl
  refine jS (jtn ?_)
  refine jcr ?_;refine jq jrm ?_;refine jq jrm ?_;refine jq jri ?_;refine jq jrdr ?_;refine jq jrm ?_;refine jN ?_;refine jcr ?_;refine jq jrm ?_;refine jq jrm ?_
  refine jqe (jecP (cmp8_ac (l.getD i 0) (r.getD i 0)) ?_)
  refine jq jrm ?_;refine jN ?_;refine jcr ?_;refine jq jrm ?_;refine jq jrc ?_;refine jN ?_;refine jcc (fun h63=>?_) fun h63=>?_
  ·refine jcr ?_;refine jq jrm ?_;refine jq jrm ?_;refine jN ?_
   refine jR (jbr (jtr (jtr (jbr (jtr (jrt (hv:=?_)))))))
   refine CEnt.int ?_
   rw [← he,cmpL_drop (l:=l) (r:=r) (i:=i) (by omega) (by omega),if_pos h63]
  refine jS (jbn (jtn ?_))
  refine jcg ?_;refine jq jra ?_;refine jq jrm ?_;refine jN ?_;refine jtn ?_;refine jlend (i+1) ?_ ?_
  ·exact ⟨by omega,by omega,by rw [← he,cmpL_drop (l:=l) (r:=r) (i:=i) (by omega) (by omega),if_neg h63]⟩
  ·omega

def idxI (l:List Int) (x:Int):Int:=if x ∈ l then (l.idxOf x:Nat) else -1
theorem index64_ac {gs:List Nat} (l:List Int) (x:Int):ACp gs Tryz.prog 168 [isC l,.c (.int .i64 x)] (.c (.int .i64 (idxI l x))):=by
 refine ac_len 0 rfl fun hlen=>?_
 refine ac_of 19 Tryz.func168 rfl rfl rfl (fun al w0 F0 St0=>?_)
 refine jcr ?_;refine jq jrm ?_;refine jN ?_;refine jcs ?_;refine jcr ?_;refine jq jrm ?_;refine jq jrl ?_;refine jq jrm ?_;refine jN ?_;refine jB ?_;refine l_loop (α:=Nat) [4,5,8,9,10,11,12,13,14,15,16,17,18] (fun i=>[(8,.c (.int .i64 (i:Nat)))]) (fun _=>[]) (fun i=>i≤l.length∧x ∉ l.take i) (fun i=>l.length-i) (0) ?_ (fun _=>rfl) ?_ ?_ ?_
 ·exact ⟨by omega,by simp⟩
 ·(repeat (first|exact EntE.nil|refine EntE.cons cZ ?_|refine EntE.cons (CEnt.int (by omega)) ?_))
 ·(repeat (first|exact HEnt.nil|refine HEnt.same ?_|refine HEnt.blk rfl (fun j hj=>by rcases j with _|_|_|_|_|_|_|_|j <;> first|exact cZ|exact CEnt.int (by omega)|omega) ?_))
 ·rintro i ⟨hi,he⟩
  refine jcr ?_;refine jq jrc ?_;refine jN ?_;refine jcs ?_;refine jcc (fun h97=>?_) fun h97=>?_
  rotate_left
  ·refine jX (jte (jte (jbx (jtn ?_))))
   refine jcr ?_;refine jq jrm ?_;refine jN ?_
   refine jR (jrt (hv:=?_))
   refine CEnt.int ?_
   have:l.take i=l:=List.take_of_length_le (by omega)
   rw [this] at he
   unfold idxI
   rw [if_neg he]
  refine jS (jtn ?_)
  refine jcs ?_;refine jB ?_;refine jcr ?_;refine jq jrm ?_;refine jq jrm ?_;refine jN ?_;refine jcr ?_;refine jq jrm ?_;refine jq jrm ?_;refine jq jrm ?_;refine jq jri ?_;refine jq jrdr ?_;refine jq jrc ?_;refine jN ?_;refine jcc (fun h98=>?_) fun h98=>?_
  ·refine jcr ?_;refine jq jrm ?_;refine jq jrm ?_;refine jN ?_
   refine jR (jbr (jtr (jtr (jbr (jtr (jrt (hv:=?_)))))))
   refine CEnt.int ?_
   have hlt:i<l.length:=by omega
   have e:l.getD i 0=l[i]:=by simp [List.getD,hlt]
   have hm:x ∈ l:=by rw [h98,e];exact List.getElem_mem hlt
   have hx:l.idxOf x=i:=by
    have e2:l=l.take i++l[i]::l.drop (i+1):=by rw [← List.drop_eq_getElem_cons hlt,List.take_append_drop]
    rw [e2,List.idxOf_append,if_neg he,h98,e]
    rw [← List.drop_eq_getElem_cons hlt,List.drop_eq_getElem_cons hlt,List.idxOf_cons_self,List.length_take]
    omega
   unfold idxI
   rw [if_pos hm,hx]
  refine jS (jbn (jtn ?_))
  refine jcg ?_;refine jq jra ?_;refine jq jrm ?_;refine jN ?_;refine jtn ?_;refine jlend (i+1) ?_ ?_
  ·exact ⟨by omega,fun hm=>by
    rw [List.take_succ_eq_append_getElem (by omega)] at hm
    rcases List.mem_append.1 hm with h|h
    ·exact he h
    ·have e:l.getD i 0=l[i]:=by simp [List.getD,show i<l.length by omega]
     simp at h
     rw [e] at h98
     exact h98 h⟩
  ·omega
theorem contains64_ac {gs:List Nat} (l:List Int) (x:Int):ACp gs Tryz.prog 154 [isC l,.c (.int .i64 x)] (.c (.bool (decide (x ∈ l)))):=by
 refine ac_of 9 Tryz.func154 rfl rfl rfl (fun al w0 F0 St0=>?_)
 refine jcr ?_;refine jq jrm ?_;refine jN ?_;refine jcr ?_;refine jq jrm ?_;refine jq jrm ?_
 refine jqe (jecP (index64_ac l x) ?_)
 refine jq jrc ?_;refine jq jrm ?_;refine jN ?_
 refine jR (jrt (hv:=?_))
 refine CEnt.bool ?_
 unfold idxI
 split <;> simp_all <;> omega

def revJ (l:List UInt8) (i:Nat):List UInt8:=(List.range l.length).map fun j=>if j<i∨l.length≤j+i then l.reverse.getD j 0 else l.getD j 0
theorem revJ_get {l:List UInt8} {i j:Nat} (h:j<l.length):(revJ l i).getD j 0=if j<i∨l.length≤j+i then l.reverse.getD j 0 else l.getD j 0:=by simp [revJ,List.getD,h]
theorem rev_get {l:List UInt8} {j:Nat} (h:j<l.length):l.reverse.getD j 0=l.getD (l.length-1-j) 0:=by
 simp [List.getD,List.getElem?_reverse h,show l.length-1-j<l.length by omega]
theorem revJ_all {l:List UInt8} {i:Nat} (h:l.length≤2 * i+1):revJ l i=l.reverse:=by
 apply List.ext_getElem
 ·simp [revJ]
 ·intro j h1 h2
  have hj:j<l.length:=by simpa using h2
  have e:=revJ_get (i:=i) hj
  simp only [List.getD_eq_getElem?_getD,List.getElem?_eq_getElem h1,List.getElem?_eq_getElem h2,List.getElem?_eq_getElem hj,Option.getD_some] at e
  rw [e]
  split
  ·rfl
  ·have:j=l.length-1-j:=by omega
   rw [List.getElem_reverse]
   congr 1
theorem revJ_zero (l:List UInt8):revJ l 0=l:=by
 apply List.ext_getElem
 ·simp [revJ]
 ·intro j h1 h2
  have e:=revJ_get (i:=0) h2
  simp only [List.getD_eq_getElem?_getD,List.getElem?_eq_getElem h1,List.getElem?_eq_getElem h2,Option.getD_some] at e
  rw [e,if_neg (by omega)]
def OwnL (g:Option Nat) (l:List UInt8):CV→List (Option Nat×Res)→Prop:=fun r H'=>r=.c (.tuple #[])∧H'=[(g,.blk l.length (byF l))]
theorem reverse8_ac {gs:List Nat} (g:Option Nat) (l:List UInt8) (hl:l.length≤100000000000):AC gs Tryz.prog 101 [(g,.blk l.length (byF l))] [.os 0 g 0 l.length 1] (OwnL g l.reverse):=by
 refine ac_of 28 Tryz.func101 rfl rfl rfl (fun al w0 F0 St0=>?_)
 refine jcr ?_;refine jq jrm ?_;refine jq jrl ?_;refine jq jra ?_;refine jq jrm ?_;refine jq jrm ?_;refine jN ?_;refine jB ?_;refine l_loop (α:=Nat) [2,3,7,8,9,10,11,12,13,14,15,16,17,18,19,20,21,22,23,24,25,26,27] (fun i=>[(2,.c (.int .i64 (i:Nat))),(3,.c (.int .i64 ((l.length:Int)-1-i)))]) (fun i=>[(g,.blk l.length (byF (revJ l i)))]) (fun i=>2 * i≤l.length+1) (fun i=>l.length-i) (0) ?_ (fun _=>rfl) ?_ ?_ ?_
 ·show 2 * 0≤l.length+1;omega
 ·exact .cons cZ (.cons (CEnt.int (by omega)) .nil)
 ·exact .blk rfl (fun j hj=>by rw [revJ_zero];exact cZ) .nil
 ·rintro i (hi:2 * i≤l.length+1)
  refine jcs ?_;refine jcr ?_;refine jq jrm ?_;refine jq jrm ?_;refine jq jrc ?_;refine jN ?_;refine jcc (fun h484=>?_) fun h484=>?_
  rotate_left
  ·refine jX (jte (jte (jbx ?_)))
   exact end_own (.inr rfl) _ _ [0] (by decide) rfl (res_0 rfl) ⟨rfl,by show [(g,Res.blk l.length (byF (revJ l i)))]=_;rw [revJ_all (by omega),List.length_reverse]⟩
  refine jS (jtn ?_)
  refine jcs ?_;refine jB ?_;refine jcdZ (.rd 0 (.rd 1 (.rd 2 (.rd 3 (.rd 4 (.rd 5 (.rd 6 (.rd 7 (.rd 8 (.rd 9 (.rd 10 (.rd 11 (.rd 12 (.one 13 (.rd 14 (.one 15 .done)))))))))))))))) ?_;refine jzq jrm ?_;refine jzq jrm ?_;refine jzq jrm ?_;refine jzq jrm ?_;refine jzq jrm ?_;refine jzq jrm ?_;refine jzq (jri (i:=(l.length-1-i)) (hz:=by omega)) ?_;refine jzo jrdo ?_;refine jzq jrm ?_;refine jzq jrm ?_;refine jzq (jri (i:=i) (hz:=by omega)) ?_;refine jzo jrdo ?_;refine jzq (jri (i:=i) (hz:=by omega)) ?_
  refine jzm (jmst 1 ?_)
  refine jzq (jri (i:=(l.length-1-i)) (hz:=by omega)) ?_
  refine jzm (jmst 1 ?_)
  refine jzd ?_
  refine jbn (jtn ?_)
  refine jcg ?_;refine jq jrm ?_;refine jq jra ?_;refine jq jrm ?_;refine jq jra ?_;refine jq jrm ?_;refine jq jrm ?_;refine jN ?_;refine jtn ?_
  refine jlend (i+1) ?_ ?_ (h7:=?_)
  ·show 2 * (i+1)≤l.length+1;omega
  ·omega
  ·exact .blk rfl (fun j hj=>by
    refine (CEnt.of_eq (updF_one _ _ _ j)).trans ?_
    have hj:j<l.length:=hj
    have e3:=revJ_get (i:=i+1) hj
    have ri:=@rev_get l i (by omega)
    have rj:=@rev_get l (l.length-1-i) (by omega)
    have ei:=@revJ_get l i i (by omega)
    have ej:=@revJ_get l i (l.length-1-i) (by omega)
    rw [if_neg (by omega)] at ei ej
    rw [show l.length-1-(l.length-1-i)=i by omega] at rj
    show CEnt (if j=_ then _ else updF (byF (revJ l i)) i [_] j) _
    rw [updF_one]
    unfold byF
    by_cases h1:j=l.length-1-i
    ·rw [if_pos h1]
     subst h1
     exact CEnt.int (by rw [ei,e3,if_pos (.inr (by omega)),rj])
    ·rw [if_neg h1]
     by_cases h2:j=i
     ·rw [if_pos h2]
      subst h2
      exact CEnt.int (by rw [ej,e3,if_pos (.inl (by omega)),ri])
     ·rw [if_neg h2]
      have e0:=revJ_get (i:=i) hj
      refine CEnt.int ?_
      rw [e0,e3]
      by_cases h3:j<i∨l.length≤j+i
      ·rw [if_pos h3,if_pos (by omega)]
      ·rw [if_neg h3,if_neg (by omega)]) .nil
end
section
open Go.RowKit
def madeM (t:Int):Bool:=decide (t=48∨t=49∨(160≤t∧t<176))
def plainT:List Int:=[1,2,3,4,5,6,10,12,24]
def knownM (t:Int):Bool:=madeM t || decide ((1≤t∧t≤6)∨t=10∨t=12∨t=24)
theorem plain_known (t:Int):decide (t ∈ plainT)=decide ((1≤t∧t≤6)∨t=10∨t=12∨t=24):=by
 refine decide_eq_decide.2 ?_
 simp only [plainT,List.mem_cons,List.not_mem_nil,or_false]
 omega
def b8 (n:Nat):UInt8:=UInt8.ofNat n
theorem b8_mod (n:Nat):(b8 n).toNat=n % 256:=by
 unfold b8
 rw [UInt8.toNat_ofNat']
def lenL (n:Nat):List UInt8 :=
 if n<128 then [b8 n] else if n<256 then [129,b8 n] else if n<65536 then [130,b8 (n / 256),b8 n]
 else if n<16777216 then [131,b8 (n / 65536),b8 (n / 256),b8 n] else [132,b8 (n / 16777216),b8 (n / 65536),b8 (n / 256),b8 n]
theorem lenL_bd (n:Nat):1≤(lenL n).length∧(lenL n).length≤5:=by
 unfold lenL
 split
 ·simp
 ·split
  ·simp
  ·split
   ·simp
   ·split <;> simp
def putL (tag:Int) (body:List UInt8):List UInt8:=UInt8.ofNat tag.toNat::(lenL body.length++body)
def beN (l:List UInt8):Nat:=l.foldl (fun n c=>n * 256+c.toNat) 0
theorem beN_snoc (l:List UInt8) (c:UInt8):beN (l++[c])=beN l * 256+c.toNat:=by simp [beN]
theorem beN_take {l:List UInt8} {i:Nat} (h:i<l.length):beN (l.take (i+1))=beN (l.take i) * 256+(l.getD i 0).toNat:=by
 rw [List.take_succ_eq_append_getElem h,beN_snoc]
 simp [List.getD,h]
theorem beN_lt (l:List UInt8):beN l<256 ^ l.length:=by
 have key:∀ (r:List UInt8) (n k:Nat),n<256 ^ k→r.foldl (fun n c=>n * 256+c.toNat) n<256 ^ (k+r.length):=by
  intro r
  induction r with
  | nil=>intro n k h;simpa using h
  | cons c r ih =>
   intro n k h
   have:=ih (n * 256+c.toNat) (k+1) (by have:=c.toNat_lt;rw [Nat.pow_succ];omega)
   simpa [Nat.add_assoc,Nat.add_comm 1] using this
 have:=key l 0 0 (by decide)
 simpa [beN] using this

structure Ms where
 e:Nat
 n:Nat
 rest:List UInt8
def measM (b:List UInt8):Ms :=
 if b.length=0 then ⟨2,0,[]⟩ else
 let c:=(b.getD 0 0).toNat
 let r:=b.drop 1
 if c≤127 then ⟨0,c,r⟩ else
 if c=128∨132<c then ⟨4,0,[]⟩ else
 if r.length<c-128 then ⟨2,0,[]⟩ else
 if beN (r.take (c-128))≤127∨(r.getD 0 0).toNat=0 then ⟨4,0,[]⟩ else ⟨0,beN (r.take (c-128)),r.drop (c-128)⟩
theorem measM_ne {b r:List UInt8} {c:Nat} (h:b.length≠0) (hc:c=(b.getD 0 0).toNat) (hr:r=b.drop 1):measM b=if c≤127 then ⟨0,c,r⟩ else
 if c=128∨132<c then ⟨4,0,[]⟩ else
 if r.length<c-128 then ⟨2,0,[]⟩ else
 if beN (r.take (c-128))≤127∨(r.getD 0 0).toNat=0 then ⟨4,0,[]⟩ else ⟨0,beN (r.take (c-128)),r.drop (c-128)⟩:=by
 subst hc hr
 unfold measM
 rw [if_neg h]
theorem measM_rest (b:List UInt8):(measM b).rest.length≤b.length-1∧((measM b).e≠0→(measM b).rest=[]∧(measM b).n=0)∧(measM b).e≤4:=by
 unfold measM
 split
 ·simp
 ·dsimp only
  split
  ·simp
  ·split
   ·simp
   ·split
    ·simp
    ·split
     ·simp
     ·refine ⟨?_,by simp,by simp⟩
      simp
      omega

structure Nx where
 e:Nat
 tag:Nat
 body:List UInt8
 rest:List UInt8
def nextM (b:List UInt8):Nx :=
 if b.length=0 then ⟨2,0,[],[]⟩ else
 if knownM ((b.getD 0 0).toNat:Nat)=false then ⟨5,0,[],[]⟩ else
 let m:=measM (b.drop 1)
 if m.e≠0 then ⟨m.e,0,[],[]⟩ else
 if 65530<m.n then ⟨3,0,[],[]⟩ else
 if m.rest.length<m.n then ⟨2,0,[],[]⟩ else ⟨0,(b.getD 0 0).toNat,m.rest.take m.n,m.rest.drop m.n⟩
theorem nextM_ne {b:List UInt8} {t:Nat} {m:Ms} (h:b.length≠0) (ht:t=(b.getD 0 0).toNat) (hk:knownM (t:Nat)=true) (hm:m=measM (b.drop 1)):nextM b=if m.e≠0 then ⟨m.e,0,[],[]⟩ else
 if 65530<m.n then ⟨3,0,[],[]⟩ else
 if m.rest.length<m.n then ⟨2,0,[],[]⟩ else ⟨0,t,m.rest.take m.n,m.rest.drop m.n⟩:=by
 subst ht hm
 unfold nextM
 rw [if_neg h,if_neg (by rw [hk];exact Bool.noConfusion)]
theorem nextM_bd (b:List UInt8):(nextM b).e≤5∧(nextM b).tag≤255∧(nextM b).body.length≤65530∧(nextM b).body.length≤b.length∧(nextM b).rest.length≤b.length∧((nextM b).e=0→(nextM b).rest.length<b.length):=by
 unfold nextM
 split
 ·simp
 ·split
  ·simp
  ·dsimp only
   have hm:=measM_rest (b.drop 1)
   split
   ·refine ⟨by dsimp only;omega,by simp,by simp,by simp,by simp,fun h=>by dsimp only at h;omega⟩
   ·split
    ·simp
    ·split
     ·simp
     ·have h8:=(b.getD 0 0).toNat_lt
      have hm1:=hm.1
      rw [List.length_drop] at hm1
      refine ⟨by simp,by dsimp only;omega,by rw [List.length_take];omega,by rw [List.length_take];omega,by rw [List.length_drop];omega,fun _=>by rw [List.length_drop];omega⟩

def loopW (rec:Nat→List UInt8→Nat×Nat) (set:Bool) (lv:Nat):Nat→List UInt8→List UInt8→Nat→Nat×Nat
 | 0,_,_,dp=>(dp,0)
 | fuel+1,b,last,dp =>
  if b.length=0 then (dp,0) else
  if (nextM b).e≠0 then (0,(nextM b).e) else
  if lv≤1 then (0,6) else
  if (rec (nextM b).tag (nextM b).body).2≠0 then (0,(rec (nextM b).tag (nextM b).body).2) else
  if set=true∧Op.bytesLess (b.take (b.length-(nextM b).rest.length)) last=true then (0,7) else
  loopW rec set lv fuel (nextM b).rest (b.take (b.length-(nextM b).rest.length)) (max dp ((rec (nextM b).tag (nextM b).body).1+1))
def wholeM:Nat→Nat→List UInt8→Nat×Nat
 | 0,_,_=>(1,0)
 | lv+1,tag,body=>if madeM tag=false then (1,0) else loopW (wholeM lv) (decide (tag=49)) (lv+1) body.length body [] 1
theorem loopW_bd (rec:Nat→List UInt8→Nat×Nat) (set:Bool) (lv B:Nat) (hr:∀ t b,(rec t b).1≤B∧(rec t b).2≤7):∀ (fuel:Nat) (b last:List UInt8) (dp:Nat),dp≤B+1→(loopW rec set lv fuel b last dp).1≤B+1∧(loopW rec set lv fuel b last dp).2≤7
 | 0,_,_,dp,h=>⟨h,by simp [loopW]⟩
 | fuel+1,b,last,dp,h=>by
  have h1:=nextM_bd b
  have h2:=hr (nextM b).tag (nextM b).body
  unfold loopW
  split
  ·exact ⟨h,by simp⟩
  ·split
   ·exact ⟨by simp,by simp;omega⟩
   ·split
    ·exact ⟨by simp,by simp⟩
    ·split
     ·exact ⟨by simp,by simp;omega⟩
     ·split
      ·exact ⟨by simp,by simp⟩
      ·exact loopW_bd rec set lv B hr fuel _ _ _ (by omega)
theorem wholeM_bd:∀ (lv tag:Nat) (body:List UInt8),(wholeM lv tag body).1≤lv+1∧(wholeM lv tag body).2≤7
 | 0,_,_=>by simp [wholeM]
 | lv+1,tag,body=>by
  unfold wholeM
  split
  ·exact ⟨by simp,by simp⟩
  ·exact loopW_bd _ _ _ _ (fun t b=>wholeM_bd lv t b) _ _ _ _ (by omega)
def depthM (b:List UInt8):Nat×Nat :=
 if 65536<b.length then (0,3) else
 if (nextM b).e≠0 then (0,(nextM b).e) else
 if 0<(nextM b).rest.length then (0,4) else wholeM 16 (nextM b).tag (nextM b).body
theorem depthM_bd (b:List UInt8):(depthM b).1≤17∧(depthM b).2≤7:=by
 have h1:=nextM_bd b
 have h2:=wholeM_bd 16 (nextM b).tag (nextM b).body
 unfold depthM
 split
 ·simp
 ·split
  ·exact ⟨by simp,by simp;omega⟩
  ·split
   ·simp
   ·exact h2
end
section
variable {gs:List Nat} [Ok9 gs]
open Go.RowKit

theorem made_ac {gs:List Nat} (t:Int):ACp gs Tryz.prog 51 [.c (.int .i64 t)] (.c (.bool (madeM t))):=by
 refine ac_of 17 Tryz.func51 rfl rfl rfl (fun al w0 F0 St0=>?_)
 refine jcr ?_;refine jq jrm ?_;refine jN ?_;refine jcr ?_;refine jq jrm ?_;refine jq jrc ?_;refine jq jrm ?_;refine jqsp 5 (fun g31=>?_) fun g31=>?_
 ·refine jqs ?_;refine jqs ?_;refine jq jrpT ?_;refine jq jrm ?_;refine jqs ?_;refine jqs ?_;refine jqs ?_;refine jqs ?_;refine jqs ?_;refine jqs ?_;refine jq jrpT ?_;refine jq jrm ?_;refine jN ?_
  refine jR (jrt (hv:=?_))
  refine CEnt.bool ?_
  (simp [madeM, *];done)
 refine jq jrm ?_;refine jq jrc ?_;refine jq jrpF ?_;refine jq jrm ?_;refine jqsp 9 (fun g31_2=>?_) fun g31_2=>?_
 ·refine jqs ?_;refine jqs ?_;refine jqs ?_;refine jqs ?_;refine jqs ?_;refine jqs ?_;refine jq jrpT ?_;refine jq jrm ?_;refine jN ?_
  refine jR (jrt (hv:=?_))
  refine CEnt.bool ?_
  (simp [madeM, *];done)
 refine jq jrm ?_;refine jq jrc ?_;refine jq jrm ?_;refine jqsp 12 (fun g31_3=>?_) fun g31_3=>?_
 ·refine jq jrm ?_;refine jq jrc ?_;refine jq jrpT ?_;refine jq jrpF ?_;refine jq jrm ?_;refine jN ?_
  refine jR (jrt (hv:=?_))
  refine CEnt.bool ?_
  (simp [madeM, *];done)
 refine jqs ?_;refine jqs ?_;refine jq jrpF ?_;refine jq jrpF ?_;refine jq jrm ?_;refine jN ?_
 refine jR (jrt (hv:=?_))
 refine CEnt.bool ?_
 (simp [madeM, *];done)
theorem rmade_ac {gs:List Nat} (t:Int):ACp gs Tryz.prog 52 [.c (.int .i64 t)] (.c (.bool (madeM t))):=by
 refine ac_of 17 Tryz.func52 rfl rfl rfl (fun al w0 F0 St0=>?_)
 refine jcr ?_;refine jq jrm ?_;refine jN ?_;refine jcr ?_;refine jq jrm ?_;refine jq jrc ?_;refine jq jrm ?_;refine jqsp 5 (fun g13=>?_) fun g13=>?_
 ·refine jqs ?_;refine jqs ?_;refine jq jrpT ?_;refine jq jrm ?_;refine jqs ?_;refine jqs ?_;refine jqs ?_;refine jqs ?_;refine jqs ?_;refine jqs ?_;refine jq jrpT ?_;refine jq jrm ?_;refine jN ?_
  refine jR (jrt (hv:=?_))
  refine CEnt.bool ?_
  (simp [madeM, *];done)
 refine jq jrm ?_;refine jq jrc ?_;refine jq jrpF ?_;refine jq jrm ?_;refine jqsp 9 (fun g13_2=>?_) fun g13_2=>?_
 ·refine jqs ?_;refine jqs ?_;refine jqs ?_;refine jqs ?_;refine jqs ?_;refine jqs ?_;refine jq jrpT ?_;refine jq jrm ?_;refine jN ?_
  refine jR (jrt (hv:=?_))
  refine CEnt.bool ?_
  (simp [madeM, *];done)
 refine jq jrm ?_;refine jq jrc ?_;refine jq jrm ?_;refine jqsp 12 (fun g13_3=>?_) fun g13_3=>?_
 ·refine jq jrm ?_;refine jq jrc ?_;refine jq jrpT ?_;refine jq jrpF ?_;refine jq jrm ?_;refine jN ?_
  refine jR (jrt (hv:=?_))
  refine CEnt.bool ?_
  (simp [madeM, *];omega)
 refine jqs ?_;refine jqs ?_;refine jq jrpF ?_;refine jq jrpF ?_;refine jq jrm ?_;refine jN ?_
 refine jR (jrt (hv:=?_))
 refine CEnt.bool ?_
 (simp [madeM, *];done)
theorem plain_ac {gs:List Nat}:ACp gs Tryz.prog 155 [] (isC plainT):=by
 refine ac_of 2 Tryz.func155 rfl rfl rfl (fun al w0 F0 St0=>?_)
 refine jcr ?_;refine jq jrm ?_;refine jN ?_;refine jcr ?_
 refine jqe (jebl 9 1 zr3 fun p1=>?_)
 refine jq jrm ?_;refine jN ?_;refine jE (freeze 0 rfl) ?_;refine jE (thawIL 0 (plainT) rfl rfl rfl rfl (fun j hj=>fl_ints (plainT) j hj)) ?_
 refine jR (jrt (hv:=cZ))
theorem known_ac {gs:List Nat} (t:Int):ACp gs Tryz.prog 131 [.c (.int .i64 t)] (.c (.bool (knownM t))):=by
 refine ac_of 10 Tryz.func131 rfl rfl rfl (fun al w0 F0 St0=>?_)
 refine jcr ?_;refine jq jrm ?_;refine jN ?_;refine jcr ?_;refine jq jrm ?_
 refine jqe (jecP (made_ac _) ?_)
 refine jq jrm ?_;refine jqsp 5 (fun g35=>?_) fun g35=>?_
 ·refine jqs ?_;refine jqs ?_;refine jqs ?_;refine jq jrpT ?_;refine jq jrm ?_;refine jN ?_
  refine jR (jrt (hv:=?_))
  refine CEnt.bool ?_
  try rw [plain_known]
  (simp [knownM,madeM, *];done)
 refine jqe (jecP plain_ac ?_)
 refine jq jrm ?_
 refine jqe (jecP (contains64_ac plainT t) ?_)
 refine jq jrpF ?_;refine jq jrm ?_;refine jN ?_
 refine jR (jrt (hv:=?_))
 refine CEnt.bool ?_
 try rw [plain_known]
 (simp [knownM,madeM, *];done)
theorem rknown_ac {gs:List Nat} (t:Int):ACp gs Tryz.prog 120 [.c (.int .i64 t)] (.c (.bool (knownM t))):=by
 refine ac_of 25 Tryz.func120 rfl rfl rfl (fun al w0 F0 St0=>?_)
 refine jcr ?_;refine jq jrm ?_;refine jN ?_;refine jcr ?_;refine jq jrm ?_
 refine jqe (jecP (rmade_ac _) ?_)
 refine jq jrm ?_;refine jqsp 5 (fun g16=>?_) fun g16=>?_
 ·refine jqs ?_;refine jqs ?_;refine jqs ?_;refine jqs ?_;refine jqs ?_;refine jqs ?_;refine jq jrpT ?_;refine jq jrm ?_;refine jqs ?_;refine jqs ?_;refine jq jrpT ?_;refine jq jrm ?_;refine jqs ?_;refine jqs ?_;refine jq jrpT ?_;refine jq jrm ?_;refine jqs ?_;refine jqs ?_;refine jq jrpT ?_;refine jq jrm ?_;refine jN ?_
  refine jR (jrt (hv:=?_))
  refine CEnt.bool ?_
  (simp [knownM,madeM, *];done)
 refine jq jrm ?_;refine jq jrc ?_;refine jq jrm ?_;refine jqsp 8 (fun g16_2=>?_) fun g16_2=>?_
 rotate_left
 ·refine jqs ?_;refine jqs ?_;refine jq jrpF ?_;refine jq jrpF ?_;refine jq jrm ?_;refine jq jrm ?_;refine jq jrc ?_;refine jq jrpF ?_;refine jq jrm ?_;refine jqsp 17 (fun g16_3=>?_) fun g16_3=>?_
  ·refine jqs ?_;refine jqs ?_;refine jq jrpT ?_;refine jq jrm ?_;refine jqs ?_;refine jqs ?_;refine jq jrpT ?_;refine jq jrm ?_;refine jN ?_
   refine jR (jrt (hv:=?_))
   refine CEnt.bool ?_
   (simp [knownM,madeM, *];done)
  refine jq jrm ?_;refine jq jrc ?_;refine jq jrpF ?_;refine jq jrm ?_;refine jqsp 21 (fun g16_4=>?_) fun g16_4=>?_
  ·refine jqs ?_;refine jqs ?_;refine jq jrpT ?_;refine jq jrm ?_;refine jN ?_
   refine jR (jrt (hv:=?_))
   refine CEnt.bool ?_
   (simp [knownM,madeM, *];done)
  refine jq jrm ?_;refine jq jrc ?_;refine jq jrpF ?_;refine jq jrm ?_;refine jN ?_
  refine jR (jrt (hv:=?_))
  refine CEnt.bool ?_
  (simp [knownM,madeM, *];done)
 refine jq jrm ?_;refine jq jrc ?_;refine jq jrpT ?_;refine jq jrpF ?_;refine jq jrm ?_;refine jqsp 13 (fun g16_3=>?_) fun g16_3=>?_
 ·refine jqs ?_;refine jqs ?_;refine jq jrpT ?_;refine jq jrm ?_;refine jqs ?_;refine jqs ?_;refine jq jrpT ?_;refine jq jrm ?_;refine jqs ?_;refine jqs ?_;refine jq jrpT ?_;refine jq jrm ?_;refine jN ?_
  refine jR (jrt (hv:=?_))
  refine CEnt.bool ?_
  (simp [knownM,madeM, *];done)
 refine jq jrm ?_;refine jq jrc ?_;refine jq jrpF ?_;refine jq jrm ?_;refine jqsp 17 (fun g16_4=>?_) fun g16_4=>?_
 ·refine jqs ?_;refine jqs ?_;refine jq jrpT ?_;refine jq jrm ?_;refine jqs ?_;refine jqs ?_;refine jq jrpT ?_;refine jq jrm ?_;refine jN ?_
  refine jR (jrt (hv:=?_))
  refine CEnt.bool ?_
  (simp [knownM,madeM, *];done)
 refine jq jrm ?_;refine jq jrc ?_;refine jq jrpF ?_;refine jq jrm ?_;refine jqsp 21 (fun g16_5=>?_) fun g16_5=>?_
 ·refine jqs ?_;refine jqs ?_;refine jq jrpT ?_;refine jq jrm ?_;refine jN ?_
  refine jR (jrt (hv:=?_))
  refine CEnt.bool ?_
  (simp [knownM,madeM, *];done)
 refine jq jrm ?_;refine jq jrc ?_;refine jq jrpF ?_;refine jq jrm ?_;refine jN ?_
 refine jR (jrt (hv:=?_))
 refine CEnt.bool ?_
 (simp [knownM,madeM, *];done)
theorem rlen_ac {gs:List Nat} (n:Nat) (hn:n<4294967296):ACp gs Tryz.prog 119 [.c (.int .i64 n)] (bsC (lenL n)):=by
 refine ac_of 50 Tryz.func119 rfl rfl rfl (fun al w0 F0 St0=>?_)
 refine jcr ?_;refine jq jrm ?_;refine jN ?_;refine jcs ?_;refine jcr ?_;refine jq jrm ?_;refine jq jrc ?_;refine jN ?_;refine jcc (fun h21=>?_) fun h21=>?_
 ·refine jcr ?_;refine jq jrm ?_;refine jq (jrv .i64 .u8) ?_
  refine jqe (jebl 1 1 zr5 fun p1=>?_)
  refine jq jrm ?_;refine jN ?_;refine jE (freeze 0 rfl) ?_;refine jE (thawBL 2 ([b8 n]) rfl rfl rfl rfl (.cons (CEnt.int ((by rw [b8_mod];omega))) .nil)) ?_
  refine jR (jtr (jrt (hv:=CEnt.bs (by unfold lenL;rw [if_pos (by omega)]))))
 refine jS (jtn ?_)
 refine jcs ?_;refine jcr ?_;refine jq jrm ?_;refine jq jrc ?_;refine jN ?_;refine jcc (fun h24=>?_) fun h24=>?_
 ·refine jcr ?_;refine jq jrm ?_;refine jq (jrv .i64 .u8) ?_
  refine jqe (jebl 2 1 zr5 fun p1=>?_)
  refine jq jrm ?_;refine jN ?_;refine jE (freeze 0 rfl) ?_;refine jE (thawBL 2 ([129,b8 n]) rfl rfl rfl rfl (.cons (CEnt.int (rfl)) (.cons (CEnt.int ((by rw [b8_mod];omega))) .nil))) ?_
  refine jR (jtr (jrt (hv:=CEnt.bs (by unfold lenL;rw [if_neg (by omega),if_pos (by omega)]))))
 refine jS (jtn ?_)
 refine jcs ?_;refine jcr ?_;refine jq jrm ?_;refine jq jrc ?_;refine jN ?_;refine jcc (fun h27=>?_) fun h27=>?_
 ·refine jcr ?_;refine jq jrm ?_;refine jq jrq ?_;refine jq (jrv .i64 .u8) ?_;refine jq jrm ?_;refine jq jrr ?_;refine jq (jrv .i64 .u8) ?_
  refine jqe (jebl 3 1 zr5 fun p1=>?_)
  refine jq jrm ?_;refine jN ?_;refine jE (freeze 0 rfl) ?_;refine jE (thawBL 2 ([130,b8 (n / 256),b8 n]) rfl rfl rfl rfl (.cons (CEnt.int (rfl)) (.cons (CEnt.int ((by rw [b8_mod];omega))) (.cons (CEnt.int ((by rw [b8_mod];omega))) .nil)))) ?_
  refine jR (jtr (jrt (hv:=CEnt.bs (by unfold lenL;rw [if_neg (by omega),if_neg (by omega),if_pos (by omega)]))))
 refine jS (jtn ?_)
 refine jcs ?_;refine jcr ?_;refine jq jrm ?_;refine jq jrc ?_;refine jN ?_;refine jcc (fun h30=>?_) fun h30=>?_
 ·refine jcr ?_;refine jq jrm ?_;refine jq jrq ?_;refine jq (jrv .i64 .u8) ?_;refine jq jrm ?_;refine jq jrq ?_;refine jq jrr ?_;refine jq (jrv .i64 .u8) ?_;refine jq jrm ?_;refine jq jrr ?_;refine jq (jrv .i64 .u8) ?_
  refine jqe (jebl 4 1 zr5 fun p1=>?_)
  refine jq jrm ?_;refine jN ?_;refine jE (freeze 0 rfl) ?_;refine jE (thawBL 2 ([131,b8 (n / 65536),b8 (n / 256),b8 n]) rfl rfl rfl rfl (.cons (CEnt.int (rfl)) (.cons (CEnt.int ((by rw [b8_mod];omega))) (.cons (CEnt.int ((by rw [b8_mod];omega))) (.cons (CEnt.int ((by rw [b8_mod];omega))) .nil))))) ?_
  refine jR (jtr (jrt (hv:=CEnt.bs (by unfold lenL;rw [if_neg (by omega),if_neg (by omega),if_neg (by omega),if_pos (by omega)]))))
 refine jS (jtn ?_)
 refine jcr ?_;refine jq jrm ?_;refine jq jrq ?_;refine jq (jrv .i64 .u8) ?_;refine jq jrm ?_;refine jq jrq ?_;refine jq jrr ?_;refine jq (jrv .i64 .u8) ?_;refine jq jrm ?_;refine jq jrq ?_;refine jq jrr ?_;refine jq (jrv .i64 .u8) ?_;refine jq jrm ?_;refine jq jrr ?_;refine jq (jrv .i64 .u8) ?_
 refine jqe (jebl 5 1 zr5 fun p1=>?_)
 refine jq jrm ?_;refine jN ?_;refine jE (freeze 0 rfl) ?_;refine jE (thawBL 2 ([132,b8 (n / 16777216),b8 (n / 65536),b8 (n / 256),b8 n]) rfl rfl rfl rfl (.cons (CEnt.int (rfl)) (.cons (CEnt.int ((by rw [b8_mod];omega))) (.cons (CEnt.int ((by rw [b8_mod];omega))) (.cons (CEnt.int ((by rw [b8_mod];omega))) (.cons (CEnt.int ((by rw [b8_mod];omega))) .nil)))))) ?_
 refine jR (jrt (hv:=CEnt.bs (by unfold lenL;rw [if_neg (by omega),if_neg (by omega),if_neg (by omega),if_neg (by omega)])))
def lowL (n k:Nat):List UInt8:=(List.range k).map fun i=>b8 (n / 256 ^ i)
theorem lowL_succ (n k:Nat):lowL n (k+1)=lowL n k++[b8 (n / 256 ^ k)]:=by simp [lowL,List.range_succ]
theorem lowL_len (n k:Nat):(lowL n k).length=k:=by simp [lowL]
theorem length_ac {gs:List Nat} (n:Nat) (hn:n<65536):ACp gs Tryz.prog 132 [.c (.int .i64 n)] (bsC (lenL n)):=by
 refine ac_of 28 Tryz.func132 rfl rfl rfl (fun al w0 F0 St0=>?_)
 refine jcr ?_;refine jq jrm ?_;refine jN ?_;refine jcs ?_;refine jcr ?_;refine jq jrm ?_;refine jq jrc ?_;refine jN ?_;refine jcc (fun h39=>?_) fun h39=>?_
 ·refine jcr ?_;refine jq jrm ?_;refine jq (jrv .i64 .u8) ?_
  refine jqe (jebl 1 1 zr5 fun p1=>?_)
  refine jq jrm ?_;refine jN ?_;refine jE (freeze 0 rfl) ?_;refine jE (thawBL 2 ([b8 n]) rfl rfl rfl rfl (.cons (CEnt.int ((by rw [b8_mod];omega))) .nil)) ?_
  refine jR (jtr (jrt (hv:=CEnt.bs (by unfold lenL;rw [if_pos (by omega)]))))
 refine jS (jtn ?_)
 refine jcr ?_;refine jq jrm ?_;refine jN ?_;refine jcs ?_;refine jB ?_;refine jE (own_nil 3 1 (byF []) rfl) ?_;refine l_loop (α:=Nat×Option Nat) [0,3,9,10,11,12,13,14,15,16,17] (fun (k,g)=>[(0,.c (.int .i64 ((n / 256 ^ k:Nat):Int))),(3,.os 0 g 0 (lowL n k).length 1)]) (fun (k,g)=>[(g,.blk (lowL n k).length (byF (lowL n k)))]) (fun k=>k.1=0∨k.1=1∨(k.1=2∧256≤n)) (fun k=>2-k.1) ((0,none)) ?_ (fun _=>rfl) ?_ ?_ ?_
 ·exact .inl rfl
 ·exact .cons (CEnt.int (by simp)) (.cons cZ .nil)
 ·exact .same .nil
 ·rintro ⟨k,g'⟩ (hk:k=0∨k=1∨(k=2∧256≤n))
  refine jcs ?_;refine jcr ?_;refine jq jrm ?_;refine jq jrc ?_;refine jN ?_;refine jcc (fun h43=>?_) fun h43=>?_
  ·refine jS (jtn ?_)
   refine jcs ?_;refine jB ?_
   have hlk:=lowL_len n k
   have hk3:k≤2:=by omega
   refine jcg ?_;refine jq jrm ?_;refine jq jrm ?_;refine jq (jrvW .i64 .u8) ?_
   refine jqe (jebl 1 1 zr5 fun p1=>?_)
   refine jqm (m_appendB (l2:=[b8 (n / 256 ^ k)]) rfl rfl rfl (Nat.le_refl _) (fun _ _=>cZ) (src_os rfl (.inl rfl) (by decide)) rfl (hh_bytes (.cons (CEnt.int ((by rw [b8_mod];generalize n / 256 ^ k=q;(simp only [IntKind.wrap_u8];omega)))) .nil)) Tryz.underlying22 nu22 sz5 zr5 by5 rfl (by (simp;omega)) (leaf_fl rfl rfl) rfl rfl (fun p2=>?_))
   refine jq jrm ?_;refine jN ?_
   refine jbn (jtn ?_)
   refine jcg ?_;refine jq jrm ?_;refine jq (rd_shr rfl rfl rfl (by (omega)) _ rfl) ?_;refine jq jrm ?_;refine jN ?_;refine jtn ?_
   refine jlend ((k+1,p2)) ?_ ?_ (h5:=?_) (h7:=?_)
   ·show k+1=0∨k+1=1∨(k+1=2∧256≤n)
    rcases hk with rfl|rfl|⟨rfl,h2⟩
    ·omega
    ·simp at h43;omega
    ·simp at h43;omega
   ·show 2-(k+1)<2-k
    rcases hk with rfl|rfl|⟨rfl,h2⟩
    ·omega
    ·omega
    ·simp at h43;omega
   ·simp only [lowL_succ]
    exact .cons (CEnt.int (by rw [Nat.pow_succ,← Nat.div_div_eq_div_mul,Int.fdiv_eq_ediv_of_nonneg _ (by decide)];rfl)) (.cons cZ .nil)
   ·simp only [lowL_succ]
    exact .same .nil
  refine jX (jte (jte (jbx (jtn ?_))))
  have hlk:=lowL_len n k
  have hk3:k≤2:=by omega
  refine jcr ?_;refine jq jrm ?_;refine jq jrm ?_;refine jq jrl ?_;refine jq jra ?_;refine jq (jrv .i64 .u8) ?_
  refine jqe (jebl 1 1 zr5 fun p1=>?_)
  refine jqm (m_appendB (l2:=[b8 (128+k)]) rfl rfl rfl (Nat.le_refl _) (fun _ _=>cZ) (src_os rfl (.inl rfl) (by decide)) rfl (hh_bytes (.cons (CEnt.int ((by rw [b8_mod];simp only [hlk];omega))) .nil)) Tryz.underlying22 nu22 sz5 zr5 by5 rfl (by (simp;omega)) (leaf_fl rfl rfl) rfl rfl (fun p2=>?_))
  refine jq jrm ?_;refine jN ?_;refine jcr ?_;refine jq jrm ?_
  refine jqm (jmcH 0 (reverse8_ac _ (lowL n k++[b8 (128+k)]) (by simp [hlk];omega)) ?_)
  rintro _ _ ⟨rfl,rfl⟩
  refine ⟨_,_,rfl,cZ,?_⟩
  refine jN ?_;refine jcr ?_;refine jq jrm ?_;refine jq jrm ?_;refine jN ?_;refine jE (freeze 0 rfl) ?_;refine jE (thawB 2 ((lowL n k++[b8 (128+k)]).reverse) rfl rfl (by simp) rfl) ?_
  refine jR (jrt (hv:=?_))
  refine CEnt.bs ?_
  rcases hk with rfl|rfl|⟨rfl,h2⟩
  ·simp at h43;omega
  ·simp at h43
   unfold lenL
   rw [if_neg (by omega),if_pos (by omega)]
   simp [lowL,List.range_succ]
   rfl
  ·unfold lenL
   rw [if_neg (by omega),if_neg (by omega),if_pos (by omega)]
   simp [lowL,List.range_succ]
   rfl
def elC (tag:Nat) (body:List UInt8):CV:=.agg 2 (fl [.c (.int .i64 tag),bsC body])
theorem measure_ac (b:List UInt8):ACp gs Tryz.prog 138 [bsC b] (.tup 3 (fl [.c (.int .i64 (measM b).n),bsC (measM b).rest,.err (measM b).e])):=by
 refine ac_of 67 Tryz.func138 rfl rfl rfl (fun al w0 F0 St0=>?_)
 refine jcr ?_;refine jq jrm ?_;refine jq jrm ?_;refine jq jrm ?_;refine jN ?_;refine jcs ?_;refine jcr ?_;refine jq jrm ?_;refine jq jrl ?_;refine jq jrc ?_;refine jN ?_;refine jcc (fun h72=>?_) fun h72=>?_
 ·refine jcs ?_;refine jcd (.rd 0 (.rd 1 (.rd 2 (.rd 3 .done)))) ?_;refine jyq (jrde 1) ?_;refine jyq jrm ?_;refine jyq jrm ?_;refine jyq jrm ?_;refine jyd ?_;refine jtn ?_
  refine jR (jtr (jrt (hv:=?_)))
  have:b.length=0:=by omega
  unfold measM
  rw [if_pos this]
  exact CEnt.tup3 cZ CEnt.nilB cZ
 refine jS (jtn ?_)
 refine jcs ?_;refine jcd (.rd 0 (.rd 1 (.rd 2 (.rd 3 (.rd 4 (.rd 5 (.rd 6 (.rd 7 .done)))))))) ?_;refine jyq jrm ?_;refine jyq (jri (i:=0)) ?_;refine jyq jrdr ?_;refine jyq (jrv8 .i64) ?_;refine jyq jrm ?_;refine jyq (jrsf (hz1:=(show (1:Int)=((1:Nat):Int) from rfl))) ?_;refine jyq jrm ?_;refine jyq jrm ?_;refine jyd ?_;refine jtn ?_;refine jcs ?_
 obtain ⟨c,hc⟩:∃ c,c=(b.getD 0 0).toNat:=⟨_,rfl⟩
 obtain ⟨r,hr⟩:∃ r,r=b.drop 1:=⟨_,rfl⟩
 have c8:c<256:=by rw [hc];exact (b.getD 0 0).toNat_lt
 have hM:=measM_ne (by omega) hc hr
 refine jE (weaken 5 (.c (.int .i64 (c:Nat))) (CEnt.int (by rw [hc]))) ?_;refine jE (weaken 0 (bsC r) (CEnt.bs hr.symm)) ?_;refine jcr ?_;refine jq jrm ?_;refine jq jrc ?_;refine jN ?_;refine jcc (fun h76=>?_) fun h76=>?_
 ·refine jcr ?_;refine jq jrm ?_;refine jq jrm ?_;refine jq jrm ?_;refine jq jrm ?_;refine jq jrm ?_;refine jN ?_
  refine jR (jtr (jrt (hv:=?_)))
  rw [hM,if_pos (by omega)]
  exact CEnt.tup3 cZ cZ CEnt.nil
 refine jS (jtn ?_)
 refine jcr ?_;refine jq jrm ?_;refine jq jra ?_;refine jq jrm ?_;refine jN ?_;refine jcs ?_;refine jB ?_;refine jcr ?_;refine jq jrm ?_;refine jq jrc ?_;refine jq jrm ?_;refine jqsp 29 (fun g81=>?_) fun g81=>?_
 ·refine jqs ?_;refine jqs ?_;refine jq jrpT ?_;refine jq jrm ?_;refine jN ?_;refine jcT ?_;refine jcs ?_;refine jcd (.rd 0 (.rd 1 (.rd 2 (.rd 3 .done)))) ?_;refine jyq (jrde 3) ?_;refine jyq jrm ?_;refine jyq jrm ?_;refine jyq jrm ?_;refine jyd ?_;refine jtn ?_
  refine jR (jbr (jtr (jrt (hv:=?_))))
  rw [hM,if_neg (by omega),if_pos (by omega)]
  exact CEnt.tup3 cZ CEnt.nilB cZ
 refine jq jrm ?_;refine jq jrc ?_;refine jq jrpF ?_;refine jq jrm ?_;refine jN ?_;refine jcc (fun h81=>?_) fun h81=>?_
 ·refine jcs ?_;refine jcd (.rd 0 (.rd 1 (.rd 2 (.rd 3 .done)))) ?_;refine jyq (jrde 3) ?_;refine jyq jrm ?_;refine jyq jrm ?_;refine jyq jrm ?_;refine jyd ?_;refine jtn ?_
  refine jR (jbr (jtr (jrt (hv:=?_))))
  rw [hM,if_neg (by omega),if_pos (by omega)]
  exact CEnt.tup3 cZ CEnt.nilB cZ
 refine jcr ?_;refine jq jrm ?_;refine jq jrl ?_;refine jq jrm ?_;refine jq jrc ?_;refine jq jrm ?_;refine jN ?_;refine jcc (fun h83=>?_) fun h83=>?_
 ·refine jcs ?_;refine jcd (.rd 0 (.rd 1 (.rd 2 (.rd 3 .done)))) ?_;refine jyq (jrde 1) ?_;refine jyq jrm ?_;refine jyq jrm ?_;refine jyq jrm ?_;refine jyd ?_;refine jtn ?_
  refine jR (jbr (jtr (jrt (hv:=?_))))
  rw [hM,if_neg (by omega),if_neg (by omega),if_pos (by omega)]
  exact CEnt.tup3 cZ CEnt.nilB cZ
 refine jS (jbn (jtn ?_))
 obtain ⟨w,hw⟩:∃ w,w=c-128:=⟨_,rfl⟩
 have hwr:w≤r.length:=by omega
 refine jE (weaken 6 (.c (.int .i64 (w:Nat))) (CEnt.int (by omega))) ?_;refine jcr ?_;refine jq jrm ?_;refine jN ?_;refine jcs ?_
 have htl:(r.take w).length=w:=by simp;omega
 refine jcr ?_;refine jq jrm ?_;refine jq jrm ?_;refine jq jrst ?_;refine jq jrl ?_;refine jq jrm ?_;refine jN ?_;refine jB ?_;refine l_loop (α:=Nat) [7,9,44,45,46,47,48,49,50,51,52,53] (fun i=>[(7,.c (.int .i64 (beN ((r.take w).take i):Nat))),(44,.c (.int .i64 (i:Nat)))]) (fun _=>[]) (fun i=>i≤w) (fun i=>w-i) (0) ?_ (fun _=>rfl) ?_ ?_ ?_
 ·exact Nat.zero_le _
 ·(repeat (first|exact EntE.nil|refine EntE.cons cZ ?_|refine EntE.cons (CEnt.int (by omega)) ?_))
 ·(repeat (first|exact HEnt.nil|refine HEnt.same ?_|refine HEnt.blk rfl (fun j hj=>by rcases j with _|_|_|_|_|_|_|_|j <;> first|exact cZ|exact CEnt.int (by omega)|omega) ?_))
 ·rintro i (hi:i≤w)
  have htl:(r.take w).length=w:=by simp;omega
  refine jcr ?_;refine jq jrc ?_;refine jN ?_;refine jcs ?_;refine jcc (fun h87=>?_) fun h87=>?_
  ·refine jS (jtn ?_)
   refine jcs ?_;refine jB ?_
   have htl:(r.take w).length=w:=by simp;omega
   refine jcr ?_;refine jq jri ?_;refine jq jrdr ?_;refine jq jrm ?_;refine jN ?_
   have hbn:=beN_lt ((r.take w).take i)
   have hbl:((r.take w).take i).length=i:=by simp;omega
   have hb3:beN ((r.take w).take i)<16777216:=by
    rw [hbl] at hbn
    have:i≤3:=by omega
    have:=Nat.pow_le_pow_right (n:=256) (by decide) this
    omega
   have hc8:=((r.take w).getD i 0).toNat_lt
   refine jcg ?_;refine jq jrm ?_;refine jq (rd_shl rfl rfl rfl (by (omega)) (((beN ((r.take w).take i) * 256:Nat):Int)) ((by show IntKind.i64.wrap (((beN ((r.take w).take i):Nat):Int) * 2 ^ 8)=_;rw [IntWalk.i64_in _ (by omega)];omega))) ?_;refine jq jrm ?_;refine jq (jrv8 .i64) ?_;refine jq jra ?_;refine jq jrm ?_;refine jN ?_
   refine jbn (jtn ?_)
   have htl:(r.take w).length=w:=by simp;omega
   refine jcg ?_;refine jq jra ?_;refine jq jrm ?_;refine jN ?_;refine jtn ?_
   refine jlend (i+1) ?_ ?_ (h5:=?_)
   ·show i+1≤w;omega
   ·omega
   ·exact .cons (CEnt.int (by rw [beN_take (by omega)];omega)) (.cons cZ .nil)
  refine jX (jte (jte (jbx (jtn ?_))))
  refine jcs ?_
  have hiw:i=w:=by omega
  have htt:(r.take w).take i=r.take (c-128):=by rw [hiw,hw,List.take_take,Nat.min_self]
  refine jE (weaken 7 (.c (.int .i64 (beN (r.take (c-128)):Nat))) (CEnt.int (by rw [htt]))) ?_;refine jcr ?_;refine jq jrm ?_;refine jq jrc ?_;refine jq jrm ?_;refine jqsp 56 (fun g90=>?_) fun g90=>?_
  ·refine jqs ?_;refine jqs ?_;refine jqs ?_;refine jqs ?_;refine jq jrpT ?_;refine jN ?_;refine jcT ?_;refine jcs ?_;refine jcd (.rd 0 (.rd 1 (.rd 2 (.rd 3 .done)))) ?_;refine jyq (jrde 3) ?_;refine jyq jrm ?_;refine jyq jrm ?_;refine jyq jrm ?_;refine jyd ?_;refine jtn ?_
   refine jR (jtr (jrt (hv:=?_)))
   rw [hM,if_neg (by omega),if_neg (by omega),if_neg (by omega),if_pos (by omega)]
   exact CEnt.tup3 cZ CEnt.nilB cZ
  refine jq jrm ?_;refine jq (jri (i:=0)) ?_;refine jq jrdr ?_;refine jq jrc ?_;refine jq jrpF ?_;refine jN ?_;refine jcc (fun h90=>?_) fun h90=>?_
  ·refine jcs ?_;refine jcd (.rd 0 (.rd 1 (.rd 2 (.rd 3 .done)))) ?_;refine jyq (jrde 3) ?_;refine jyq jrm ?_;refine jyq jrm ?_;refine jyq jrm ?_;refine jyd ?_;refine jtn ?_
   refine jR (jtr (jrt (hv:=?_)))
   rw [hM,if_neg (by omega),if_neg (by omega),if_neg (by omega),if_pos (by omega)]
   exact CEnt.tup3 cZ CEnt.nilB cZ
  refine jS (jtn ?_)
  refine jcs ?_;refine jcd (.rd 0 (.rd 1 (.rd 2 (.rd 3 (.rd 4 (.rd 5 (.rd 6 .done))))))) ?_;refine jyq jrm ?_;refine jyq jrm ?_;refine jyq jrm ?_;refine jyq jrsf ?_;refine jyq jrm ?_;refine jyq jrm ?_;refine jyq jrm ?_;refine jyd ?_;refine jtn ?_
  refine jR (jrt (hv:=?_))
  rw [hM,if_neg (by omega),if_neg (by omega),if_neg (by omega),if_neg (by omega)]
  refine CEnt.tup3 cZ (CEnt.bs ?_) CEnt.nil
  rw [hw]
end
section
variable {gs:List Nat} [Ok9 gs]
open Go.RowKit

theorem next_ac (b:List UInt8) (hb:b.length≤10000000):ACp gs Tryz.prog 105 [bsC b] (.tup 3 (fl [elC (nextM b).tag (nextM b).body,bsC (nextM b).rest,.err (nextM b).e])):=by
 have hml:=measM_rest (b.drop 1)
 refine ac_of 56 Tryz.func105 rfl rfl rfl (fun al w0 F0 St0=>?_)
 refine jcr ?_
 refine jqe (jeal (n:=2) zr118 rfl fun p1=>?_)
 refine jq jrm ?_;refine jq jrm ?_;refine jN ?_;refine jcs ?_;refine jcr ?_;refine jq jrm ?_;refine jq jrl ?_;refine jq jrc ?_;refine jN ?_;refine jcc (fun h98=>?_) fun h98=>?_
 ·refine jcs ?_;refine jcdZ (.rd 0 (.rd 1 (.one 2 (.rd 3 (.rd 4 .done))))) ?_;refine jzq (rd_build (n:=2) rfl zr118 pl118 rfl rfl) ?_;refine jzq (jrde 1) ?_
  refine jzm (jmst 2 ?_)
  refine jzq jrm ?_;refine jzq jrm ?_;refine jzd ?_;refine jtn ?_
  refine jR (jtr (jrt (hres:=res_3 rfl (javA 2) javt javt) (hv:=?_)))
  have:b.length=0:=by omega
  unfold nextM
  rw [if_pos this]
  exact CEnt.tup3 (CEnt.agg2 cZ CEnt.nilB) CEnt.nilB cZ
 refine jS (jtn ?_)
 refine jcr ?_;refine jq jrm ?_;refine jq (jri (i:=0)) ?_;refine jq jrdr ?_;refine jq (jrv8 .i64) ?_;refine jq jrm ?_;refine jN ?_;refine jcs ?_
 obtain ⟨t,ht⟩:∃ t,t=(b.getD 0 0).toNat:=⟨_,rfl⟩
 refine jE (weaken 5 (.c (.int .i64 (t:Nat))) (CEnt.int (by rw [ht]))) ?_;refine jcr ?_;refine jq jrm ?_
 refine jqe (jecP (known_ac _) ?_)
 refine jq jrn ?_;refine jN ?_;refine jcc (fun h102=>?_) fun h102=>?_
 ·refine jcs ?_;refine jcdZ (.rd 0 (.rd 1 (.one 2 (.rd 3 (.rd 4 .done))))) ?_;refine jzq (rd_build (n:=2) rfl zr118 pl118 rfl rfl) ?_;refine jzq (jrde 4) ?_
  refine jzm (jmst 2 ?_)
  refine jzq jrm ?_;refine jzq jrm ?_;refine jzd ?_;refine jtn ?_
  refine jR (jtr (jrt (hres:=res_3 rfl (javA 2) javt javt) (hv:=?_)))
  have hk:knownM (t:Nat)=false:=by simpa using h102
  unfold nextM
  rw [if_neg (by omega),if_pos (by rw [← ht];exact hk)]
  exact CEnt.tup3 (CEnt.agg2 cZ CEnt.nilB) CEnt.nilB cZ
 refine jS (jtn ?_)
 have hk:knownM (t:Nat)=true:=by simpa using h102
 have hN:=nextM_ne (by omega) ht hk rfl
 refine jcr ?_;refine jq jrm ?_;refine jq (jrsf (hz1:=(show (1:Int)=((1:Nat):Int) from rfl))) ?_
 refine jqe (jecP (measure_ac _) ?_)
 refine jq jrm ?_;refine jq jrx ?_;refine jq jrx ?_;refine jq jrx ?_;refine jq jrm ?_;refine jq jrm ?_;refine jq jrm ?_;refine jN ?_;refine jcs ?_;refine jB ?_;refine jcr ?_;refine jq jrm ?_;refine jq jre ?_;refine jq jrm ?_;refine jN ?_;refine jcc (fun h107=>?_) fun h107=>?_
 ·refine jcr ?_;refine jq (rd_build (n:=2) rfl zr118 pl118 rfl rfl) ?_;refine jq jrm ?_
  refine jqm (jmst 2 ?_)
  refine jq jrm ?_;refine jq jrm ?_;refine jN ?_
  refine jR (jbr (jtr (jrt (hres:=res_3 rfl (javA 2) javt javt) (hv:=?_))))
  rw [hN,if_pos (by omega)]
  exact CEnt.tup3 (CEnt.agg2 cZ CEnt.nilB) CEnt.nilB cZ
 refine jcr ?_;refine jq jrm ?_;refine jq jrc ?_;refine jq jrm ?_;refine jN ?_;refine jcc (fun h109=>?_) fun h109=>?_
 ·refine jcs ?_;refine jcdZ (.rd 0 (.rd 1 (.one 2 (.rd 3 (.rd 4 .done))))) ?_;refine jzq (rd_build (n:=2) rfl zr118 pl118 rfl rfl) ?_;refine jzq (jrde 2) ?_
  refine jzm (jmst 2 ?_)
  refine jzq jrm ?_;refine jzq jrm ?_;refine jzd ?_;refine jtn ?_
  refine jR (jbr (jtr (jrt (hres:=res_3 rfl (javA 2) javt javt) (hv:=?_))))
  rw [hN,if_neg (by omega),if_pos (by omega)]
  exact CEnt.tup3 (CEnt.agg2 cZ CEnt.nilB) CEnt.nilB cZ
 refine jcr ?_;refine jq jrm ?_;refine jq jrm ?_;refine jq jrl ?_;refine jq jrc ?_;refine jq jrm ?_;refine jN ?_;refine jcc (fun h111=>?_) fun h111=>?_
 ·refine jcs ?_;refine jcdZ (.rd 0 (.rd 1 (.one 2 (.rd 3 (.rd 4 .done))))) ?_;refine jzq (rd_build (n:=2) rfl zr118 pl118 rfl rfl) ?_;refine jzq (jrde 1) ?_
  refine jzm (jmst 2 ?_)
  refine jzq jrm ?_;refine jzq jrm ?_;refine jzd ?_;refine jtn ?_
  refine jR (jbr (jtr (jrt (hres:=res_3 rfl (javA 2) javt javt) (hv:=?_))))
  rw [hN,if_neg (by omega),if_neg (by omega),if_pos (by omega)]
  exact CEnt.tup3 (CEnt.agg2 cZ CEnt.nilB) CEnt.nilB cZ
 refine jS (jbn (jtn ?_))
 refine jcs ?_;refine jcdB 10 (.rd 0 (.rd 1 (.rd 2 (.rd 3 (.rd 6 (.rd 7 (.rd 8 (.one 4 (.rd 5 (.one 9 .done)))))))))) ?_;refine jyq jrm ?_;refine jyq jrm ?_;refine jyq jrm ?_;refine jyq jrst ?_;refine jyq jrm ?_;refine jyq jrm ?_;refine jyq jrsf ?_
 refine jye (jecP (clone8_ac ((measM (b.drop 1)).rest.take (measM (b.drop 1)).n) (by rw [List.length_take];have:=hml.1;rw [List.length_drop] at this;omega)) ?_)
 refine jyq (rd_build (n:=2) rfl zr118 pl118 rfl rfl) ?_
 refine jye (jecP (clone8_ac ((measM (b.drop 1)).rest.drop (measM (b.drop 1)).n) (by rw [List.length_drop];have:=hml.1;rw [List.length_drop] at this;omega)) ?_)
 refine jyd ?_
 show ASeq _ _ _ _ _ _
 refine jqm (jmst 2 ?_)
 refine jq jrm ?_;refine jq jrm ?_;refine jN ?_;refine jtn ?_
 refine jR (jrt (hres:=res_3 rfl (javA 2) javt javt) (hv:=?_))
 rw [hN,if_neg (by omega),if_neg (by omega),if_neg (by omega)]
 exact CEnt.tup3 (CEnt.agg2 cZ cZ) cZ CEnt.nil

theorem loopW_nil (rec:Nat→List UInt8→Nat×Nat) (set:Bool) (lv fuel:Nat) (last:List UInt8) (dp:Nat):loopW rec set lv fuel [] last dp=(dp,0):=by
 cases fuel <;> simp [loopW]
theorem loopW_step (rec:Nat→List UInt8→Nat×Nat) (set:Bool) (lv fuel:Nat) (b last:List UInt8) (dp:Nat) (hb:0<b.length) (hf:b.length≤fuel):loopW rec set lv fuel b last dp =
  if (nextM b).e≠0 then (0,(nextM b).e) else
  if lv≤1 then (0,6) else
  if (rec (nextM b).tag (nextM b).body).2≠0 then (0,(rec (nextM b).tag (nextM b).body).2) else
  if set=true∧Op.bytesLess (b.take (b.length-(nextM b).rest.length)) last=true then (0,7) else
  loopW rec set lv (fuel-1) (nextM b).rest (b.take (b.length-(nextM b).rest.length)) (max dp ((rec (nextM b).tag (nextM b).body).1+1)):=by
 obtain ⟨m,rfl⟩:∃ m,fuel=m+1:=⟨fuel-1,by omega⟩
 rw [loopW,if_neg (by omega)]
 rfl
structure WS where
 f:Nat
 b:List UInt8
 last:List UInt8
 dp:Nat
theorem whole_ac:∀ (lv tag:Nat) (body:List UInt8),lv<16→body.length≤1000000→ACp gs Tryz.prog 137 [elC tag body,.c (.int .i64 ((lv+1:Nat):Int))] (.tup 2 (fl [.c (.int .i64 (wholeM (lv+1) tag body).1),.err (wholeM (lv+1) tag body).2])):=by
 intro lv
 induction lv using Nat.strongRecOn with
 | _ lv ih =>
 intro tag body hlv hbody
 have ih':1≤lv→∀ (tag:Nat) (body:List UInt8),body.length≤1000000→ACp gs Tryz.prog 137 [elC tag body,.c (.int .i64 (lv:Nat))] (.tup 2 (fl [.c (.int .i64 (wholeM lv tag body).1),.err (wholeM lv tag body).2])):=fun h tag body hb=>by
  have:=ih (lv-1) (by omega) tag body (by omega) hb
  rwa [show lv-1+1=lv by omega] at this
 have hR:∀ t b,(wholeM lv t b).1≤lv+1∧(wholeM lv t b).2≤7:=fun t b=>wholeM_bd lv t b
 refine ac_of 70 Tryz.func137 rfl rfl rfl (fun al w0 F0 St0=>?_)
 refine jcr ?_
 refine jqe (jebx 2 fun p1=>?_)
 refine jq jrm ?_;refine jq jrm ?_;refine jN ?_;refine jcr ?_;refine jq jrm ?_;refine jN ?_;refine jcs ?_;refine jcr ?_;refine jq (jrfa 0 1 false) ?_;refine jqo jrdo ?_
 refine jqe (jecP (made_ac _) ?_)
 refine jq jrn ?_;refine jN ?_;refine jcc (fun h134=>?_) fun h134=>?_
 ·refine jcr ?_;refine jq jrm ?_;refine jq jrm ?_;refine jq jrm ?_;refine jN ?_
  refine jR (jtr (jrt (hv:=?_)))
  have hmd:madeM (tag:Nat)=false:=decide_eq_false h134
  rw [wholeM,if_pos hmd]
  exact CEnt.tup2 cZ CEnt.nil
 refine jS (jtn ?_)
 have hmd:madeM (tag:Nat)=true:=decide_eq_true (Decidable.not_not.1 h134)
 have hw0:wholeM (lv+1) tag body=loopW (wholeM lv) (decide (tag=49)) (lv+1) body.length body [] 1:=by
  rw [wholeM,if_neg (by rw [hmd];exact Bool.noConfusion)]
 refine jcr ?_;refine jq jrm ?_;refine jN ?_;refine jcs ?_;refine jcr ?_;refine jq (jrfa 1 1 false) ?_;refine jqo jrdo ?_;refine jq jrm ?_;refine jN ?_;refine jB ?_;refine l_loop (α:=WS×Option Nat) [4,5,6,7,8,9,10,11,12,13,21,22,23,24,25,26,27,28,29,30,31,32,33,34,35,36,37,38,39,40,41,42,43,44,45,46,47,48,49,50,51,52,53,54,55,56,57,58,59,60,61,62,63,64,65,66,67,68] (fun (x,g)=>[(6,.c (.int .i64 (x.dp:Nat))),(7,bsC x.last),(8,bsC x.b)]) (fun (x,g)=>[(p1,.blk 2 (fl [.c (.int .i64 tag),bsC body]))]) (fun x=>x.1.b.length≤x.1.f∧x.1.b.length≤1000000∧x.1.dp≤lv+2∧loopW (wholeM lv) (decide (tag=49)) (lv+1) x.1.f x.1.b x.1.last x.1.dp=wholeM (lv+1) tag body) (fun x=>x.1.f) ((⟨body.length,body,[],1⟩,none)) ?_ (fun _=>rfl) ?_ ?_ ?_
 ·exact ⟨Nat.le_refl _,hbody,by show 1≤lv+2;omega,hw0.symm⟩
 ·exact .cons cZ (.cons CEnt.nilB (.cons cZ .nil))
 ·exact .same .nil
 ·rintro ⟨x,g'⟩ ⟨hxf,hxb',hdp,hw⟩
  dsimp only at hxf hxb' hdp hw
  have hxb:x.b.length≤10000000:=by omega
  have hnb:=nextM_bd x.b
  refine jcs ?_;refine jcr ?_;refine jq jrm ?_;refine jq jrl ?_;refine jq jrc ?_;refine jN ?_;refine jcc (fun h138=>?_) fun h138=>?_
  rotate_left
  ·refine jX (jte (jte (jbx (jtn ?_))))
   refine jcr ?_;refine jq jrm ?_;refine jq jrm ?_;refine jq jrm ?_;refine jN ?_
   refine jR (jrt (hv:=?_))
   have hnil:x.b=[]:=List.eq_nil_of_length_eq_zero (by omega)
   rw [← hw,hnil,loopW_nil]
   exact CEnt.tup2 cZ CEnt.nil
  refine jS (jtn ?_)
  refine jB ?_;refine jcr ?_;refine jq jrm ?_
  refine jqe (jecP (next_ac x.b hxb) ?_)
  refine jq jrm ?_;refine jq jrx ?_;refine jq jrx ?_;refine jq jrx ?_
  refine jqe (jeal (n:=2) zr118 rfl fun p2=>?_)
  refine jqm (jmst 2 ?_)
  refine jq jrm ?_;refine jq jrm ?_;refine jN ?_;refine jcs ?_;refine jcr ?_;refine jq jrm ?_;refine jq jre ?_;refine jN ?_;refine jcc (fun h140=>?_) fun h140=>?_
  ·refine jcr ?_;refine jq jrm ?_;refine jq jrm ?_;refine jq jrm ?_;refine jN ?_
   refine jR (jtr (jbr (jtr (jbr (jtr (jrt (hv:=?_)))))))
   rw [← hw,loopW_step _ _ _ _ _ _ _ (by omega) hxf,if_pos h140]
   exact cZ
  refine jS (jtn ?_)
  refine jcs ?_;refine jcr ?_;refine jq jrm ?_;refine jq jrc ?_;refine jN ?_;refine jcc (fun h143=>?_) fun h143=>?_
  ·refine jcs ?_;refine jcd (.rd 0 (.rd 1 (.rd 2 .done))) ?_;refine jyq (jrde 5) ?_;refine jyq jrm ?_;refine jyq jrm ?_;refine jyd ?_;refine jtn ?_
   refine jR (jtr (jbr (jtr (jbr (jtr (jrt (hv:=?_)))))))
   rw [← hw,loopW_step _ _ _ _ _ _ _ (by omega) hxf,if_neg h140,if_pos (by omega)]
   exact cZ
  refine jS (jtn ?_)
  refine jcr ?_;refine jqo (jrdoA 2) ?_;refine jq jrm ?_;refine jq jra ?_
  refine jqe (jecP (ih' (by omega) (nextM x.b).tag (nextM x.b).body (by omega)) ?_ (ho:=rfl) (he:=(.cons (se rfl (CEnt.agg2 cZ cZ)) (.cons (se rfl (CEnt.int (by omega))) .nil))))
  refine jq jrm ?_;refine jq jrx ?_;refine jq jrx ?_;refine jq jrm ?_;refine jq jrm ?_;refine jN ?_;refine jcs ?_
  have hRx:=hR (nextM x.b).tag (nextM x.b).body
  refine jcr ?_;refine jq jrm ?_;refine jq jre ?_;refine jN ?_;refine jcc (fun h147=>?_) fun h147=>?_
  ·refine jcr ?_;refine jq jrm ?_;refine jq jrm ?_;refine jq jrm ?_;refine jN ?_
   refine jR (jtr (jbr (jtr (jbr (jtr (jrt (hv:=?_)))))))
   rw [← hw,loopW_step _ _ _ _ _ _ _ (by omega) hxf,if_neg h140,if_neg (by omega),if_pos h147]
   exact cZ
  refine jS (jtn ?_)
  refine jcr ?_;refine jq jrm ?_;refine jq jrm ?_;refine jq jrl ?_;refine jq jrm ?_;refine jq jrl ?_;refine jq jra ?_;refine jq (jrst (hz2:=(show _=(((x.b.length-(nextM x.b).rest.length):Nat):Int) by omega))) ?_;refine jq jrm ?_;refine jN ?_;refine jcs ?_;refine jcr ?_;refine jq (jrfa 0 1 false) ?_;refine jqo jrdo ?_;refine jq jrc ?_;refine jq jrm ?_;refine jqsp 56 (fun g151=>?_) fun g151=>?_
  rotate_left
  ·refine jqs ?_;refine jqs ?_;refine jqs ?_;refine jqs ?_;refine jq jrpF ?_;refine jN ?_;refine jcF ?_
   refine jS (jtn ?_)
   refine jcr ?_;refine jq jrm ?_;refine jq jrm ?_;refine jq jra ?_;refine jq (rd_max2 rfl rfl rfl) ?_;refine jq jrm ?_;refine jN ?_;refine jcg ?_;refine jq jrm ?_;refine jq jrm ?_;refine jq jrm ?_;refine jq jrm ?_;refine jN ?_
   refine jbn (jtn ?_)
   refine jlend ((⟨x.f-1,(nextM x.b).rest,x.b.take (x.b.length-(nextM x.b).rest.length),max x.dp ((wholeM lv (nextM x.b).tag (nextM x.b).body).1+1)⟩,none)) ?_ ?_ (h5:=?_) (h7:=?_)
   ·exact ⟨by dsimp only;omega,by dsimp only;omega,by dsimp only;omega,by
     dsimp only
     rw [← hw,loopW_step _ _ _ _ _ _ _ (by omega) hxf,if_neg h140,if_neg (by omega),if_neg h147,if_neg (by
      rintro ⟨h1,h2⟩
      have h1:=of_decide_eq_true h1
      rw [← cmpL_lt] at h2
      have h2:=of_decide_eq_true h2
      omega)]⟩
   ·dsimp only
    omega
   ·exact .cons (CEnt.int (by dsimp only;omega)) (.cons cZ (.cons cZ .nil))
   ·exact .same .nil
  refine jq jrm ?_;refine jq jrm ?_
  refine jqe (jecP (compare8_ac (x.b.take (x.b.length-(nextM x.b).rest.length)) x.last) ?_)
  refine jq jrc ?_;refine jq jrpT ?_;refine jN ?_;refine jcc (fun h151=>?_) fun h151=>?_
  ·refine jcs ?_;refine jcd (.rd 0 (.rd 1 (.rd 2 .done))) ?_;refine jyq (jrde 6) ?_;refine jyq jrm ?_;refine jyq jrm ?_;refine jyd ?_;refine jtn ?_
   refine jR (jtr (jbr (jtr (jbr (jtr (jrt (hv:=?_)))))))
   rw [← hw,loopW_step _ _ _ _ _ _ _ (by omega) hxf,if_neg h140,if_neg (by omega),if_neg h147,if_pos ⟨decide_eq_true (by omega),by rw [← cmpL_lt];exact decide_eq_true (by omega)⟩]
   exact cZ
  refine jS (jtn ?_)
  refine jcr ?_;refine jq jrm ?_;refine jq jrm ?_;refine jq jra ?_;refine jq (rd_max2 rfl rfl rfl) ?_;refine jq jrm ?_;refine jN ?_;refine jcg ?_;refine jq jrm ?_;refine jq jrm ?_;refine jq jrm ?_;refine jq jrm ?_;refine jN ?_
  refine jbn (jtn ?_)
  refine jlend ((⟨x.f-1,(nextM x.b).rest,x.b.take (x.b.length-(nextM x.b).rest.length),max x.dp ((wholeM lv (nextM x.b).tag (nextM x.b).body).1+1)⟩,none)) ?_ ?_ (h5:=?_) (h7:=?_)
  ·exact ⟨by dsimp only;omega,by dsimp only;omega,by dsimp only;omega,by
    dsimp only
    rw [← hw,loopW_step _ _ _ _ _ _ _ (by omega) hxf,if_neg h140,if_neg (by omega),if_neg h147,if_neg (by
     rintro ⟨h1,h2⟩
     have h1:=of_decide_eq_true h1
     rw [← cmpL_lt] at h2
     have h2:=of_decide_eq_true h2
     omega)]⟩
  ·dsimp only
   omega
  ·exact .cons (CEnt.int (by dsimp only;omega)) (.cons cZ (.cons cZ .nil))
  ·exact .same .nil
end
section
variable {gs:List Nat} [Ok9 gs]
open Go.RowKit

theorem depth_ac (b:List UInt8) (hb:b.length≤10000000):ACp gs Tryz.prog 104 [bsC b] (.tup 2 (fl [.c (.int .i64 (depthM b).1),.err (depthM b).2])):=by
 have hnb:=nextM_bd b
 refine ac_of 30 Tryz.func104 rfl rfl rfl (fun al w0 F0 St0=>?_)
 refine jcr ?_;refine jq jrm ?_;refine jq jrm ?_;refine jN ?_;refine jcs ?_;refine jcr ?_;refine jq jrm ?_;refine jq jrl ?_;refine jq jrc ?_;refine jN ?_;refine jcc (fun h162=>?_) fun h162=>?_
 ·refine jcs ?_;refine jcd (.rd 0 (.rd 1 (.rd 2 .done))) ?_;refine jyq (jrde 2) ?_;refine jyq jrm ?_;refine jyq jrm ?_;refine jyd ?_;refine jtn ?_
  refine jR (jtr (jrt (hv:=?_)))
  unfold depthM
  rw [if_pos (by omega)]
  exact cZ
 refine jS (jtn ?_)
 refine jcr ?_;refine jq jrm ?_
 refine jqe (jecP (next_ac b hb) ?_)
 refine jq jrm ?_;refine jq jrx ?_;refine jq jrx ?_;refine jq jrx ?_
 refine jqe (jeal (n:=2) zr118 rfl fun p1=>?_)
 refine jqm (jmst 2 ?_)
 refine jq jrm ?_;refine jq jrm ?_;refine jN ?_;refine jcs ?_;refine jB ?_;refine jcr ?_;refine jq jrm ?_;refine jq jre ?_;refine jq jrm ?_;refine jN ?_;refine jcc (fun h167=>?_) fun h167=>?_
 ·refine jcr ?_;refine jq jrm ?_;refine jq jrm ?_;refine jq jrm ?_;refine jN ?_
  refine jR (jbr (jtr (jrt (hv:=?_))))
  unfold depthM
  rw [if_neg (by omega),if_pos (by omega)]
  exact cZ
 refine jcr ?_;refine jq jrm ?_;refine jq jrl ?_;refine jq jrc ?_;refine jq jrm ?_;refine jN ?_;refine jcc (fun h169=>?_) fun h169=>?_
 ·refine jcs ?_;refine jcd (.rd 0 (.rd 1 (.rd 2 .done))) ?_;refine jyq (jrde 3) ?_;refine jyq jrm ?_;refine jyq jrm ?_;refine jyd ?_;refine jtn ?_
  refine jR (jbr (jtr (jrt (hv:=?_))))
  unfold depthM
  rw [if_neg (by omega),if_neg (by omega),if_pos (by omega)]
  exact cZ
 refine jS (jbn (jtn ?_))
 refine jcr ?_;refine jqo (jrdoA 2) ?_
 refine jqe (jecP (whole_ac 15 (nextM b).tag (nextM b).body (by omega) (by omega)) ?_ (ho:=rfl) (he:=(.cons (se rfl (CEnt.agg2 cZ cZ)) (.cons (se rfl cZ) .nil))))
 refine jq jrx ?_;refine jq jrx ?_;refine jq jrm ?_;refine jq jrm ?_;refine jN ?_
 refine jR (jrt (hv:=?_))
 unfold depthM
 rw [if_neg (by omega),if_neg (by omega),if_neg (by omega)]
 exact cZ
theorem check_ac (b:List UInt8) (hb:b.length≤10000000):ACp gs Tryz.prog 67 [bsC b] (.err (depthM b).2):=by
 refine ac_of 11 Tryz.func67 rfl rfl rfl (fun al w0 F0 St0=>?_)
 refine jcr ?_;refine jq jrm ?_;refine jN ?_;refine jcr ?_;refine jq jrm ?_
 refine jqe (jecP (depth_ac b hb) ?_)
 refine jq jrm ?_;refine jq jrx ?_;refine jq jrx ?_;refine jq jrm ?_;refine jq jrm ?_;refine jN ?_;refine jcr ?_;refine jq jrm ?_;refine jq jrm ?_;refine jN ?_
 refine jR jrt
def ex3a:List UInt8:=[48,3,2,1,5]
def ex3b:List UInt8:=[48,129,3,2,1,5]
theorem rput_ac {gs:List Nat} (tag:Int) (body:List UInt8) (ht:0≤tag∧tag<256) (hb:body.length≤10000000):ACp gs Tryz.prog 86 [.c (.int .i64 tag),bsC body] (bsC (putL tag body)):=by
 have hl:=lenL_bd body.length
 refine ac_of 14 Tryz.func86 rfl rfl rfl (fun al w0 F0 St0=>?_)
 refine jcr ?_;refine jq jrm ?_;refine jN ?_;refine jcr ?_;refine jq jrm ?_;refine jq (jrv .i64 .u8) ?_
 refine jqe (jebl 1 1 zr5 fun p1=>?_)
 refine jq jrm ?_;refine jq jrl ?_
 refine jqe (jecP (rlen_ac body.length (by omega)) ?_)
 refine seq_ent (blk_ent 0 rfl (Nat.le_refl _) (fun _=>rfl) (fl_by (l2:=[b8 tag.toNat]) (.cons (CEnt.int ((by rw [b8_mod];omega))) .nil))) ?_
 first|refine jqm (m_appendB (l:=[b8 tag.toNat]) rfl rfl rfl (Nat.le_refl _) (fun _ _=>cZ) (src_rs rfl) rfl (fun j hj=>by simp only [Nat.div_one];exact cZ) Tryz.underlying22 nu22 sz5 zr5 by5 rfl (by (simp;omega)) (fun j hj=>rfl) rfl rfl (fun p2=>?_))|refine jqm (m_appendB (l:=[b8 tag.toNat]) rfl rfl rfl (Nat.le_refl _) (fun _ _=>cZ) (src_str rfl) rfl (fun j hj=>cZ) Tryz.underlying22 nu22 sz5 zr5 by5 rfl (by first|omega|(simp;done)|(simp;omega)|(simp at *;omega)) (fun j hj=>rfl) rfl rfl (fun p2=>?_))|refine jqm (m_appendB (l:=[b8 tag.toNat]) rfl rfl rfl (Nat.le_refl _) (fun _ _=>cZ) (src_os rfl (.inl rfl) (by omega)) rfl (fun j hj=>by rw [Nat.zero_add];exact cZ) Tryz.underlying22 nu22 sz5 zr5 by5 rfl (by first|omega|(simp;done)|(simp;omega)|(simp at *;omega)) (fun j hj=>rfl) rfl rfl (fun p2=>?_))
 refine jq jrm ?_
 first|refine jqm (m_appendB rfl rfl rfl (Nat.le_refl _) (fun _ _=>cZ) (src_rs rfl) rfl (fun j hj=>by simp only [Nat.div_one];exact cZ) Tryz.underlying22 nu22 sz5 zr5 by5 rfl (by (simp;omega)) (fun j hj=>rfl) rfl rfl (fun p3=>?_))|refine jqm (m_appendB rfl rfl rfl (Nat.le_refl _) (fun _ _=>cZ) (src_str rfl) rfl (fun j hj=>cZ) Tryz.underlying22 nu22 sz5 zr5 by5 rfl (by first|omega|(simp;done)|(simp;omega)|(simp at *;omega)) (fun j hj=>rfl) rfl rfl (fun p3=>?_))|refine jqm (m_appendB rfl rfl rfl (Nat.le_refl _) (fun _ _=>cZ) (src_os rfl (.inl rfl) (by omega)) rfl (fun j hj=>by rw [Nat.zero_add];exact cZ) Tryz.underlying22 nu22 sz5 zr5 by5 rfl (by first|omega|(simp;done)|(simp;omega)|(simp at *;omega)) (fun j hj=>rfl) rfl rfl (fun p3=>?_))
 refine jq jrm ?_;refine jN ?_;refine jE (freeze 0 rfl) ?_;refine jE (thawB 4 ([b8 tag.toNat]++lenL body.length++body) rfl rfl (by rfl) rfl) ?_
 refine jR (jrt (hv:=CEnt.bs (by simp [putL,b8])))
end
section
variable {gs:List Nat} [Ok9 gs]
open Go.RowKit

theorem grow8_ac {gs:List Nat} (n:Nat) (hn:n≤100000000000):AC gs Tryz.prog 136 [] [.c (.slice none 0 0),.c (.int .i64 (n:Nat))] (OwnQ 0 1 0 fun _=>.top):=by
 refine ac_of 27 Tryz.func136 rfl rfl rfl (fun al w0 F0 St0=>?_)
 refine jcr ?_;refine jq jrm ?_;refine jN ?_;refine jcs ?_;refine jcr ?_;refine jq jrm ?_;refine jq jrc ?_;refine jN ?_;refine jcc (fun h423=>?_) fun h423=>?_
 ·exfalso;omega
 refine jS (jtn ?_)
 refine jcs ?_;refine jcr ?_;refine jq jrm ?_;refine jq jrm ?_;refine jq (rd_capN rfl rfl Tryz.underlying22) ?_;refine jq jrm ?_;refine jq jrl ?_;refine jq jra ?_;refine jq jra ?_;refine jq jrm ?_;refine jN ?_;refine jcr ?_;refine jq jrm ?_;refine jq jrc ?_;refine jN ?_;refine jcc (fun h426=>?_) fun h426=>?_
 rotate_left
 ·refine jS (jtn ?_)
  refine jE (own_nil 0 1 (fun _=>.top) rfl) ?_;refine jcr ?_;refine jq jrm ?_;refine jq jrm ?_;refine jN ?_;refine jR ?_
  exact end_O 0 (.inl rfl) (res_1 rfl (arv_tmp rfl)) rfl rfl (Nat.le_refl _) (fun _=>rfl) (fun j hj=>absurd hj (Nat.not_lt_zero j))
 refine jcg ?_;refine jq jrm ?_;refine jq jrm ?_;refine jq (rd_capN rfl rfl Tryz.underlying22) ?_;refine jq (rd_sliceN rfl rfl Tryz.underlying22 sz5 (bd_none _ _) (bd_some rfl (show _=((0:Nat):Int) by omega)) (by (omega)) (by (omega))) ?_;refine jq jrm ?_
 refine jqe (e_appZ (F:=fun _=>.top) rfl rfl rfl (show _=((n:Nat):Int) by omega) (by (omega)) Tryz.underlying22 Tryz.underlying3 sz5 (by decide) zr5 by5 (by (omega)) (by (omega)) rfl rfl rfl (fun p1=>?_))
 refine jq jrm ?_;refine jq jrl ?_;refine jq (jrso (hl:=(bd_none _ _)) (hu:=(bd_some rfl (show _=((0:Nat):Int) by omega)))) ?_;refine jq jrm ?_;refine jN ?_;refine jtn ?_
 skip
 refine jcr ?_;refine jq jrm ?_;refine jq jrm ?_;refine jN ?_;refine jR ?_
 exact end_O 0 (.inl rfl) (res_1 rfl (arv_tmp rfl)) rfl rfl (Nat.le_refl _) (fun _=>rfl) (fun j hj=>absurd hj (Nat.not_lt_zero j))
theorem concat8_ac {gs:List Nat} (ls:List (List UInt8)) (h:sumL ls≤10000000000) (hl:ls.length≤1000000):ACp gs Tryz.prog 103 [lbC ls] (bsC ls.flatten):=by
 refine ac_of 36 Tryz.func103 rfl rfl rfl (fun al w0 F0 St0=>?_)
 refine jcr ?_;refine jq jrm ?_;refine jN ?_;refine jcr ?_;refine jq jrm ?_;refine jN ?_;refine jcs ?_;refine jcr ?_;refine jq jrm ?_;refine jq jrl ?_;refine jq jrm ?_;refine jN ?_;refine jB ?_;refine l_loop (α:=Nat) [3,5,11,12,13,14,15,16,17,18,19,20,21,22] (fun i=>[(3,.c (.int .i64 (sumL (ls.take i):Nat))),(11,.c (.int .i64 (i:Nat)))]) (fun _=>[]) (fun i=>i≤ls.length) (fun i=>ls.length-i) (0) ?_ (fun _=>rfl) ?_ ?_ ?_
 ·exact Nat.zero_le _
 ·exact .cons cZ (.cons cZ .nil)
 ·(repeat (first|exact HEnt.nil|refine HEnt.same ?_|refine HEnt.blk rfl (fun j hj=>by rcases j with _|_|_|_|_|_|_|_|j <;> first|exact cZ|exact CEnt.int (by omega)|omega) ?_))
 ·rintro i (hi:i≤ls.length)
  refine jcr ?_;refine jq jrc ?_;refine jN ?_;refine jcs ?_;refine jcc (fun h493=>?_) fun h493=>?_
  ·refine jS (jtn ?_)
   refine jcs ?_;refine jB ?_;refine jcr ?_;refine jq jri ?_;refine jq jrdr ?_;refine jq jrm ?_;refine jN ?_
   have hs1:=sumL_take (ls:=ls) (i:=i) (by omega)
   have hs2:=sumL_le ls (i+1)
   refine jcr ?_;refine jq jrm ?_;refine jq jrm ?_;refine jq jrl ?_;refine jq jra ?_;refine jq jrm ?_;refine jN ?_;refine jcr ?_;refine jq jrm ?_;refine jq jrc ?_;refine jN ?_;refine jcc (fun h495=>?_) fun h495=>?_
   ·exfalso;omega
   refine jS (jbn (jtn ?_))
   refine jcg ?_;refine jq jra ?_;refine jq jrm ?_;refine jN ?_;refine jtn ?_
   refine jlend (i+1) ?_ ?_ (h5:=?_)
   ·show i+1≤ls.length;omega
   ·omega
   ·exact .cons (CEnt.int (by rw [sumL_take (by omega)];omega)) (.cons (CEnt.int (by omega)) .nil)
  refine jX (jte (jte (jbx (jtn ?_))))
  have hs3:=sumL_le ls i
  refine jcr ?_;refine jq jrm ?_
  refine jqe (jecO (grow8_ac (sumL (ls.take i)) (by omega)) (fun p1=>?_))
  refine jq jrm ?_;refine jN ?_;refine jcs ?_;refine jcr ?_;refine jq jrm ?_;refine jq jrl ?_;refine jq jrm ?_;refine jN ?_;refine jB ?_;refine l_loop (α:=Nat×Option Nat) [6,8,27,28,29,30,31,32,33,34] (fun (j,g)=>[(6,.os 0 g 0 ((ls.take j).flatten).length 1),(27,.c (.int .i64 (j:Nat)))]) (fun (j,g)=>[(g,.blk ((ls.take j).flatten).length (byF (ls.take j).flatten))]) (fun j=>j.1≤ls.length) (fun j=>ls.length-j.1) ((0,p1)) ?_ (fun _=>rfl) ?_ ?_ ?_
  ·exact Nat.zero_le _
  ·exact .cons cZ (.cons cZ .nil)
  ·exact .blk rfl (fun j hj=>absurd hj (Nat.not_lt_zero j)) .nil
  ·rintro ⟨j,g'⟩ (hj:j≤ls.length)
   refine jcr ?_;refine jq jrc ?_;refine jN ?_;refine jcs ?_;refine jcc (fun h503=>?_) fun h503=>?_
   rotate_left
   ·refine jX (jte (jte (jbx (jtn ?_))))
    refine jcr ?_;refine jq jrm ?_;refine jq jrm ?_;refine jN ?_;refine jE (freeze 0 rfl) ?_;refine jE (thawB 2 ((ls.take j).flatten) rfl rfl (by rfl) rfl) ?_
    refine jR (jrt (hv:=?_))
    refine CEnt.bs ?_
    rw [List.take_of_length_le (by omega)]
   refine jS (jtn ?_)
   refine jcs ?_;refine jB ?_;refine jcr ?_;refine jq jri ?_;refine jq jrdr ?_;refine jq jrm ?_;refine jN ?_
   have hf1:=sumL_take (ls:=ls) (i:=j) (by omega)
   have hf2:=sumL_le ls (j+1)
   have hf3:=flat_len (ls.take j)
   refine jcg ?_;refine jq jrm ?_;refine jq jrm ?_
   first|refine jqm (m_appendB rfl rfl rfl (Nat.le_refl _) (fun _ _=>cZ) (src_rs rfl) rfl (fun j hj=>by simp only [Nat.div_one];exact cZ) Tryz.underlying22 nu22 sz5 zr5 by5 rfl (by omega) (fun j hj=>rfl) rfl rfl (fun p2=>?_))|refine jqm (m_appendB rfl rfl rfl (Nat.le_refl _) (fun _ _=>cZ) (src_str rfl) rfl (fun j hj=>cZ) Tryz.underlying22 nu22 sz5 zr5 by5 rfl (by first|omega|(simp;done)|(simp;omega)|(simp at *;omega)) (fun j hj=>rfl) rfl rfl (fun p2=>?_))|refine jqm (m_appendB rfl rfl rfl (Nat.le_refl _) (fun _ _=>cZ) (src_os rfl (.inl rfl) (by omega)) rfl (fun j hj=>by rw [Nat.zero_add];exact cZ) Tryz.underlying22 nu22 sz5 zr5 by5 rfl (by first|omega|(simp;done)|(simp;omega)|(simp at *;omega)) (fun j hj=>rfl) rfl rfl (fun p2=>?_))
   refine jq jrm ?_;refine jN ?_
   refine jbn (jtn ?_)
   refine jcg ?_;refine jq jra ?_;refine jq jrm ?_;refine jN ?_;refine jtn ?_
   refine jlend ((j+1,p2)) ?_ ?_ (h5:=?_) (h7:=?_)
   ·show j+1≤ls.length;omega
   ·show ls.length-(j+1)<ls.length-j;omega
   ·simp only [flat_take (show j<ls.length by omega)]
    exact .cons cZ (.cons (CEnt.int (by omega)) .nil)
   ·simp only [flat_take (show j<ls.length by omega)]
    exact .same .nil
end
end Am
end Go.Proofs.YteolfpolmioalaaGreatDoor
namespace Go.Proofs.YteolfpolmioalaaGreatDoor
set_option linter.unusedVariables false
open Go.RowKit

def marks:List UInt8:=[201,202,203,204,205,206]
def Marked (w:World) (v:Value) (l:List UInt8):Prop :=
 ∃ g,v=.slice (some ⟨g,0,none⟩) l.length (l.length+6)∧l.length+6≤9223372036854775807∧∀ i,i<l.length+6→w.cell? ⟨g,i,none⟩=some (.int .u8 ((l++marks).getD i 0).toNat)
def MarkedAt (w:World) (g:Nat) (v:Value) (l:List UInt8):Prop :=
 v=.slice (some ⟨g,0,none⟩) l.length (l.length+6)∧l.length+6≤9223372036854775807∧∀ i,i<l.length+6→w.cell? ⟨g,i,none⟩=some (.int .u8 ((l++marks).getD i 0).toNat)
theorem Marked.below {a b:World} {v:Value} {l:List UInt8} (h:Marked a v l) (k:Below a.heap.size a b):Marked b v l:=by
 obtain ⟨g,rfl,h1,h2⟩:=h
 exact ⟨g,rfl,h1,fun i hi=>below_cell k (h2 i hi)⟩
theorem Marked.bs {w:World} {v:Value} {l:List UInt8} (h:Marked w v l):Bs w v l:=by
 obtain ⟨g,rfl,h1,h2⟩:=h
 refine Bs.of_cells (by omega) (by omega) fun i hi=>?_
 rw [Nat.zero_add,h2 i (by omega)]
 simp [List.getD,List.getElem?_append_left hi]

theorem Bs.parts {w:World} {v:Value} {l:List UInt8} (h:Bs w v l) :
  ∃ ao cap,v=.slice ao l.length cap∧l.length≤cap∧cap≤9223372036854775807∧(ao=none→l.length=0∧cap=0) ∧
   ∀ ad,ao=some ad→∀ j u,(l.map fun c=>Value.int .u8 c.toNat)[j]?=some u→w.cell? (ad.add j)=some u:=by
 obtain ⟨ao,cap,rfl,h1,h2,h3,h4⟩:=h
 refine ⟨ao,cap,rfl,h1,h2,fun h=>⟨by have:=h3 h;omega,h3 h⟩,?_⟩
 intro ad had j u hu
 obtain ⟨hs,hc⟩:=h4 ad had
 obtain ⟨b,o,sp⟩:=ad
 have hj:j<l.length:=by
  have:=(List.getElem?_eq_some_iff.1 hu).1
  simpa using this
 have hs:=hs (by omega)
 simp only at hs
 subst hs
 rw [Addr.add_lit,hc j hj]
 rw [List.getElem?_map,List.getElem?_eq_getElem hj] at hu
 simpa [List.getD,hj] using hu

end Go.Proofs.YteolfpolmioalaaGreatDoor
namespace Go.Proofs.YteolfpolmioalaaGreatDoor
set_option linter.unusedVariables false
namespace Am
section
variable {gs:List Nat} [Ok9 gs]
open Go.RowKit
def markSV (l:List UInt8):SV where
 p St w v:=∃ g,St g∧MarkedAt w g v l
 st:=fun {St St' w w' v} hs hb ⟨g,h1,h2,h3,h4⟩=>⟨g,hs g h1,h2,h3,fun i hi=>cell_keep (fun cur t z hc=>hb g cur t z h1 hc) (h4 i hi)⟩
 one:=fun {St w v} ⟨g,h1,h2,h3,h4⟩=>by rw [h2];exact ⟨rfl,rfl⟩
def markC (l:List UInt8):CV:=.pv (markSV l)
theorem CEnt.mark {l:List UInt8}:CEnt (markC l) (bsC l):=fun al St w v ⟨g,h1,h2,h3,h4⟩=>by
 refine ⟨_,_,h2,by omega,h3,(fun h=>by cases h),fun a ha hn=>?_⟩
 cases ha
 refine ⟨rfl,h1,fun i j hi hj=>⟨_,by rw [show 0+(i * 1+j)=i by omega];exact h4 i (by omega),?_⟩⟩
 show _=_
 simp [List.getD,List.getElem?_append_left hi]
end
section
variable {gs:List Nat} [Ok9 gs]
open Go.RowKit

def putE (tag:Int) (body:List UInt8):Nat:=if knownM tag=false then 5 else if 65530<body.length then 3 else 0
theorem known_bd {t:Int} (h:knownM t=true):0≤t∧t<256:=by
 unfold knownM madeM at h
 simp at h
 omega
theorem tput_ac (tag:Int) (body:List UInt8) (hb:body.length≤1000000):ACp gs Tryz.prog 98 [.agg 2 (fl [.c (.int .i64 tag),bsC body])] (.tup 2 (fl [bsC (if putE tag body=0 then putL tag body else []),.err (putE tag body)])):=by
 refine ac_of 28 Tryz.func98 rfl rfl rfl (fun al w0 F0 St0=>?_)
 refine jcr ?_
 refine jqe (jebx 2 fun p1=>?_)
 refine jq jrm ?_;refine jq jrm ?_;refine jN ?_;refine jcs ?_;refine jB ?_;refine jcr ?_;refine jq (jrfa 0 1 false) ?_;refine jqo jrdo ?_
 refine jqe (jecP (known_ac _) ?_)
 refine jq jrn ?_;refine jq jrm ?_;refine jN ?_;refine jcc (fun h62=>?_) fun h62=>?_
 ·refine jcs ?_;refine jcd (.rd 0 (.rd 1 (.rd 2 .done))) ?_;refine jyq (jrde 4) ?_;refine jyq jrm ?_;refine jyq jrm ?_;refine jyd ?_;refine jtn ?_
  refine jR (jbr (jtr (jrt (hv:=?_))))
  have hk:knownM tag=false:=by simpa using h62
  have he:putE tag body=5:=by unfold putE;rw [if_pos hk]
  rw [he];exact CEnt.tup2 CEnt.nilB cZ
 refine jcr ?_;refine jq (jrfa 1 1 false) ?_;refine jqo jrdo ?_;refine jq jrl ?_;refine jq jrc ?_;refine jq jrm ?_;refine jN ?_;refine jcc (fun h64=>?_) fun h64=>?_
 ·refine jcs ?_;refine jcd (.rd 0 (.rd 1 (.rd 2 .done))) ?_;refine jyq (jrde 2) ?_;refine jyq jrm ?_;refine jyq jrm ?_;refine jyd ?_;refine jtn ?_
  refine jR (jbr (jtr (jrt (hv:=?_))))
  have hk:knownM tag=true:=by simpa using h62
  have he:putE tag body=3:=by unfold putE;rw [if_neg (by rw [hk];exact Bool.noConfusion),if_pos (by omega)]
  rw [he];exact CEnt.tup2 CEnt.nilB cZ
 refine jS (jbn (jtn ?_))
 refine jcs ?_
 have hk:knownM tag=true:=by simpa using h62
 have hkb:=known_bd hk
 have he:putE tag body=0:=by unfold putE;rw [if_neg (by rw [hk];exact Bool.noConfusion),if_neg (by omega)]
 have hlb:=lenL_bd body.length
 refine jcd (.rd 0 (.rd 1 (.rd 2 (.rd 4 (.rd 5 (.rd 6 (.rd 8 (.rd 9 (.two 3 (.one 7 (.one 10 (.one 11 (.rd 12 (.rd 13 .done))))) 7 (.one 3 (.one 10 (.one 11 (.rd 12 (.rd 13 .done)))))))))))))) ?_;refine jyq (jrfa 0 1 false) ?_;refine jyo jrdo ?_;refine jyq (jrv .i64 .u8) ?_;refine jyq (jrfa 1 1 false) ?_;refine jyo jrdo ?_;refine jyq jrl ?_;refine jyq (jrfa 1 1 false) ?_;refine jyo jrdo ?_;refine jytwo ?_ ?_
 ·refine jye (jebl 1 1 zr5 fun p2=>?_)
  refine jye (jecP (length_ac body.length (by omega)) ?_)
  refine x_ent (freeze 1 rfl) ?_;refine x_ent (thawBL 19 [UInt8.ofNat tag.toNat] rfl rfl rfl rfl (.cons (CEnt.int (by rw [UInt8.toNat_ofNat'];omega)) .nil)) ?_
  refine jye (jebl 3 1 zr22 fun p3=>?_)
  refine x_ent (freeze 2 rfl) ?_;refine x_ent (thawLB 26 [[UInt8.ofNat tag.toNat],lenL body.length,body] rfl rfl rfl rfl (.cons cZ (.cons cZ (.cons cZ .nil)))) ?_
  refine jye (jecP (concat8_ac [[UInt8.ofNat tag.toNat],lenL body.length,body] (by simp [sumL];omega) (by simp)) ?_)
  refine jyq jrm ?_;refine jyq jrm ?_;refine jyd ?_;refine jtn ?_
  refine jR (jrt (hv:=CEnt.tup2 (CEnt.bs (by rw [he,if_pos rfl];simp [putL])) (CEnt.nilE he)))
 ·refine jye (jecP (length_ac body.length (by omega)) ?_)
  refine jye (jebl 1 1 zr5 fun p2=>?_)
  refine x_ent (freeze 1 rfl) ?_;refine x_ent (thawBL 19 [UInt8.ofNat tag.toNat] rfl rfl rfl rfl (.cons (CEnt.int (by rw [UInt8.toNat_ofNat'];omega)) .nil)) ?_
  refine jye (jebl 3 1 zr22 fun p3=>?_)
  refine x_ent (freeze 2 rfl) ?_;refine x_ent (thawLB 26 [[UInt8.ofNat tag.toNat],lenL body.length,body] rfl rfl rfl rfl (.cons cZ (.cons cZ (.cons cZ .nil)))) ?_
  refine jye (jecP (concat8_ac [[UInt8.ofNat tag.toNat],lenL body.length,body] (by simp [sumL];omega) (by simp)) ?_)
  refine jyq jrm ?_;refine jyq jrm ?_;refine jyd ?_;refine jtn ?_
  refine jR (jrt (hv:=CEnt.tup2 (CEnt.bs (by rw [he,if_pos rfl];simp [putL])) (CEnt.nilE he)))
end
section
theorem cmp8_swap (a b:UInt8):cmp8 b a=- cmp8 a b:=by
 unfold cmp8
 rcases Nat.lt_trichotomy a.toNat b.toNat with h|h|h
 ·rw [if_neg (by omega),if_pos h,if_pos h];rfl
 ·rw [if_neg (by omega),if_neg (by omega),if_neg (by omega),if_neg (by omega)];rfl
 ·rw [if_pos h,if_neg (by omega),if_pos h]
theorem cmp8_zero {a b:UInt8} (h:cmp8 a b=0):a=b:=by
 unfold cmp8 at h
 split at h
 ·omega
 ·split at h
  ·omega
  ·exact UInt8.toNat_inj.1 (by omega)
theorem cmp8_iff (a b:UInt8):(cmp8 a b<0↔a.toNat<b.toNat)∧(cmp8 a b≤0↔a.toNat≤b.toNat):=by
 unfold cmp8
 split
 ·omega
 ·split <;> omega
theorem cmpL_swap:∀ l r:List UInt8,cmpL r l=- cmpL l r
 | [],[]=>rfl
 | [],_::_=>rfl
 | _::_,[]=>rfl
 | a::l,b::r=>by
  have h:=cmp8_swap a b
  have ih:=cmpL_swap l r
  rw [cmpL,cmpL]
  by_cases e:cmp8 a b=0
  ·rw [if_neg (by omega),if_neg (by omega),ih]
  ·rw [if_pos (by omega),if_pos e,h]
theorem cmpL_zero:∀ {l r:List UInt8},cmpL l r=0→l=r
 | [],[],_=>rfl
 | [],_::_,h=>by simp [cmpL] at h
 | _::_,[],h=>by simp [cmpL] at h
 | a::l,b::r,h=>by
  rw [cmpL] at h
  by_cases e:cmp8 a b=0
  ·rw [if_neg (fun x=>x e)] at h
   rw [cmp8_zero e,cmpL_zero h]
  ·rw [if_pos e] at h;exact absurd h e
theorem cmpL_trans:∀ {a b c:List UInt8},cmpL a b≤0→cmpL b c≤0→cmpL a c≤0
 | [],_,[],_,_=>Int.le_refl 0
 | [],_,_::_,_,_=>by show (-1:Int)≤0;decide
 | _::_,[],_,h,_=>by simp [cmpL] at h
 | _::_,_::_,[],_,h=>by simp [cmpL] at h
 | x::a,y::b,z::c,h1,h2=>by
  rw [cmpL] at h1 h2 ⊢
  have k1:=cmp8_iff x y;have k2:=cmp8_iff y z;have k3:=cmp8_iff x z
  by_cases e1:cmp8 x y=0
  ·have e:=cmp8_zero e1
   subst e
   rw [if_neg (fun q=>q e1)] at h1
   by_cases e2:cmp8 x z=0
   ·rw [if_neg (fun q=>q e2)] at h2 ⊢
    exact cmpL_trans h1 h2
   ·rw [if_pos e2] at h2 ⊢;exact h2
  ·rw [if_pos e1] at h1
   by_cases e2:cmp8 y z=0
   ·have e:=cmp8_zero e2
    subst e
    rw [if_pos e1];exact h1
   ·rw [if_pos e2] at h2
    have e3:cmp8 x z≠0:=fun e=>by
     have:=cmp8_zero e
     subst this
     have:=cmp8_swap x y
     omega
    rw [if_pos e3]
    omega
theorem cmpL_self (l:List UInt8):cmpL l l=0:=by have:=cmpL_swap l l;omega
theorem cmpL_swo {α:Type} (L:α→List UInt8):Go.Sort.SWO (fun x y:α=>decide (cmpL (L x) (L y)<0)) where
 irrefl:=fun x=>by rw [cmpL_self];rfl
 trans:=fun x y z h1 h2=>by
  simp only [decide_eq_true_eq] at h1 h2 ⊢
  have h3:=cmpL_trans (a:=L x) (b:=L y) (c:=L z) (by omega) (by omega)
  by_cases e:cmpL (L x) (L z)=0
  ·have:=cmpL_zero e
   have h4:=cmpL_swap (L y) (L z)
   rw [this] at h1
   omega
  ·omega
 ntrans:=fun x y z h1 h2=>by
  simp only [decide_eq_false_iff_not,Int.not_lt] at h1 h2 ⊢
  have s1:=cmpL_swap (L x) (L y);have s2:=cmpL_swap (L y) (L z);have s3:=cmpL_swap (L x) (L z)
  have h3:=cmpL_trans (a:=L z) (b:=L y) (c:=L x) (by omega) (by omega)
  omega
def leL (a b:List UInt8):Bool:=decide (cmpL a b≤0)
theorem leL_total (a b:List UInt8):(leL a b || leL b a)=true:=by
 have:=cmpL_swap a b
 unfold leL
 by_cases h:cmpL a b≤0
 ·simp [h]
 ·have:cmpL b a≤0:=by omega
  simp [this]
theorem leL_trans (a b c:List UInt8) (h1:leL a b=true) (h2:leL b c=true):leL a c=true:=by
 unfold leL at h1 h2 ⊢
 simp only [decide_eq_true_eq] at h1 h2 ⊢
 exact cmpL_trans h1 h2
theorem leL_anti {a b:List UInt8} (h1:leL a b=true) (h2:leL b a=true):a=b:=by
 unfold leL at h1 h2
 simp only [decide_eq_true_eq] at h1 h2
 have:=cmpL_swap a b
 exact cmpL_zero (by omega)
def sortL (ls:List (List UInt8)):List (List UInt8):=ls.mergeSort leL
theorem sortL_perm (ls:List (List UInt8)):(sortL ls).Perm ls:=List.mergeSort_perm ls leL
theorem sortL_sorted (ls:List (List UInt8)):(sortL ls).Pairwise fun a b=>leL a b=true:=List.pairwise_mergeSort leL_trans leL_total ls
theorem sorted_eq:∀ {l r:List (List UInt8)},l.Perm r→(l.Pairwise fun a b=>leL a b=true)→(r.Pairwise fun a b=>leL a b=true)→l=r
 | [],r,hp,_,_=>(List.nil_perm.1 hp).symm
 | a::l,[],hp,_,_=>absurd hp.symm.nil_eq (by simp)
 | a::l,b::r,hp,h1,h2=>by
  have ha:=List.pairwise_cons.1 h1
  have hb:=List.pairwise_cons.1 h2
  have e:a=b:=by
   have m1:a ∈ b::r:=hp.subset (List.mem_cons_self ..)
   have m2:b ∈ a::l:=hp.symm.subset (List.mem_cons_self ..)
   rcases List.mem_cons.1 m1 with h|h
   ·exact h
   ·rcases List.mem_cons.1 m2 with k|k
    ·exact k.symm
    ·exact leL_anti (ha.1 b k) (hb.1 a h)
  subst e
  rw [sorted_eq (List.perm_cons a |>.1 hp) ha.2 hb.2]
theorem sortL_of {l r:List (List UInt8)} (hp:l.Perm r) (h:l.Pairwise fun a b=>leL a b=true):l=sortL r:=sorted_eq (hp.trans (sortL_perm r).symm) h (sortL_sorted r)
theorem sortL_length (ls:List (List UInt8)):(sortL ls).length=ls.length:=(sortL_perm ls).length_eq
end
section
open Go.RowKit Go.Lib
def bt (l:List UInt8) (i:Nat):Nat:=(l.getD i 0).toNat
theorem bt_lt (l:List UInt8) (i:Nat):bt l i<256:=UInt8.toNat_lt _
def dec1 (l:List UInt8):Nat×Nat:=Lib.decodeN l.length (bt l 0) (bt l 1) (bt l 2) (bt l 3)
theorem ba_bang (l:List UInt8) (i:Nat):((⟨l.toArray⟩:ByteArray).get! i).toNat=bt l i:=by
 show (l.toArray[i]!).toNat=_
 simp [bt,List.getD]
 rfl
theorem decodeL_dec1 (l:List UInt8):decodeL l=dec1 l:=by
 unfold decodeL dec1
 rw [Lib.decode_at,ba_bang,ba_bang,ba_bang,ba_bang]
 rfl
theorem dec1_width (l:List UInt8):1≤(dec1 l).2∧(dec1 l).2≤4:=by
 unfold dec1 Lib.decodeN
 repeat' split
 all_goals simp
def badR (c:Nat):Bool:=decide (c<32) || decide (c=127)
def plainGo:Nat→List UInt8→Bool
 | 0,_=>true
 | n+1,l=>if l=[] then true else if ((dec1 l).1=65533∧(dec1 l).2=1)∨badR (dec1 l).1=true then false else plainGo n (l.drop (dec1 l).2)
def plainM (l:List UInt8):Bool:=plainGo l.length l
def noBad:Nat→List UInt8→Bool
 | 0,_=>true
 | n+1,l=>if l=[] then true else if badR (dec1 l).1=true then false else noBad n (l.drop (dec1 l).2)
theorem plain_two:∀ (n:Nat) (l:List UInt8),plainGo n l=(noBad n l && validGoD n l)
 | 0,l=>rfl
 | n+1,l=>by
  rw [plainGo,noBad,validGoD,plain_two n,decodeL_dec1]
  by_cases h:l=[]
  ·simp [h]
  ·rw [if_neg h,if_neg h,if_neg h]
   by_cases h1:badR (dec1 l).1=true
   ·simp [h1]
   ·by_cases h2:(dec1 l).1=65533∧(dec1 l).2=1
    ·simp [h1,h2]
    ·rw [if_neg (by simp [h1];intro h3 h4;exact h2 ⟨h3,h4⟩),if_neg h1,if_neg h2]
theorem fuel_plain:∀ (n m:Nat) (l:List UInt8),l.length≤n→l.length≤m→plainGo n l=plainGo m l
 | 0,m,l,h,_=>by
  have:l=[]:=List.length_eq_zero_iff.1 (by omega)
  subst this
  cases m <;> simp [plainGo]
 | n+1,0,l,_,h=>by
  have:l=[]:=List.length_eq_zero_iff.1 (by omega)
  subst this
  simp [plainGo]
 | n+1,m+1,l,h1,h2=>by
  rw [plainGo,plainGo]
  by_cases h:l=[]
  ·simp [h]
  ·have hw:=(dec1_width l).1
   have hp:=List.length_pos_iff.2 h
   rw [fuel_plain n m _ (by simp;omega) (by simp;omega)]
theorem plainM_step {l:List UInt8} (h:l≠[]):plainM l=if ((dec1 l).1=65533∧(dec1 l).2=1)∨badR (dec1 l).1=true then false else plainM (l.drop (dec1 l).2):=by
 have hp:=List.length_pos_iff.2 h
 have hw:=(dec1_width l).1
 unfold plainM
 obtain ⟨n,hn⟩:∃ n,l.length=n+1:=⟨l.length-1,by omega⟩
 rw [hn,plainGo,if_neg h,fuel_plain n (l.drop (dec1 l).2).length _ (by simp;omega) (Nat.le_refl _)]
theorem noBad_step {n:Nat} {l:List UInt8} (h:l≠[]):noBad (n+1) l=if badR (dec1 l).1=true then false else noBad n (l.drop (dec1 l).2):=by rw [noBad,if_neg h]
theorem noBad_fuel:∀ (n m:Nat) (l:List UInt8),l.length≤n→l.length≤m→noBad n l=noBad m l
 | 0,m,l,h,_=>by
  have:l=[]:=List.length_eq_zero_iff.1 (by omega)
  subst this
  cases m <;> simp [noBad]
 | n+1,0,l,_,h=>by
  have:l=[]:=List.length_eq_zero_iff.1 (by omega)
  subst this
  simp [noBad]
 | n+1,m+1,l,h1,h2=>by
  rw [noBad,noBad]
  by_cases h:l=[]
  ·simp [h]
  ·have hw:=(dec1_width l).1
   have hp:=List.length_pos_iff.2 h
   rw [noBad_fuel n m _ (by simp;omega) (by simp;omega)]
def noBadM (l:List UInt8):Bool:=noBad l.length l
theorem noBadM_step {l:List UInt8} (h:l≠[]):noBadM l=if badR (dec1 l).1=true then false else noBadM (l.drop (dec1 l).2):=by
 have hp:=List.length_pos_iff.2 h
 have hw:=(dec1_width l).1
 unfold noBadM
 obtain ⟨n,hn⟩:∃ n,l.length=n+1:=⟨l.length-1,by omega⟩
 rw [hn,noBad_step h,noBad_fuel n (l.drop (dec1 l).2).length _ (by simp;omega) (Nat.le_refl _)]
theorem plainM_two (l:List UInt8):plainM l=(noBadM l && validD l):=plain_two _ _
theorem ref_ascii {l:List UInt8} (h:l≠[]) (h0:bt l 0<128):plainM l=if bt l 0<32∨bt l 0=127 then false else plainM (l.drop 1):=by
 have e:dec1 l=(bt l 0,1):=by unfold dec1 Lib.decodeN;rw [if_pos h0]
 rw [plainM_step h,e]
 simp only [badR,Bool.or_eq_true,decide_eq_true_eq]
 by_cases h1:bt l 0<32∨bt l 0=127
 ·rw [if_pos (.inr h1),if_pos h1]
 ·rw [if_neg h1,if_neg (by omega)]
theorem ref_bad {l:List UInt8} (h:l≠[]) (hd:dec1 l=(65533,1)):plainM l=false:=by
 rw [plainM_step h,hd,if_pos (.inl ⟨rfl,rfl⟩)]
theorem ref_good {l:List UInt8} (h:l≠[]) {c w:Nat} (hd:dec1 l=(c,w)) (hc:128≤c) (hw:2≤w):plainM l=plainM (l.drop w):=by
 rw [plainM_step h,hd,if_neg (by simp [badR];omega)]
theorem dec_head_bad {l:List UInt8} (h:128≤bt l 0) (h2:bt l 0<192∨248≤bt l 0):dec1 l=(65533,1):=by
 unfold dec1 Lib.decodeN
 rw [if_neg (by omega),if_neg (by omega),if_neg (by omega),if_neg (by omega)]
theorem dec_two {l:List UInt8} (h:192≤bt l 0) (h2:bt l 0<224):dec1 l=if l.length≤1∨bt l 1<128∨191<bt l 1∨(bt l 0-192) * 64+bt l 1-128<128 then (65533,1) else ((bt l 0-192) * 64+bt l 1-128,2):=by
 have:=bt_lt l 1
 unfold dec1 Lib.decodeN
 rw [if_neg (by omega)]
 by_cases h3:l.length≤1∨bt l 1<128∨191<bt l 1
 ·rw [if_neg (by omega),if_neg (by omega),if_neg (by omega),if_pos (by omega)]
 ·rw [if_pos (by omega)]
  have e:bt l 0 % 32 * 64+bt l 1 % 64=(bt l 0-192) * 64+bt l 1-128:=by omega
  rw [e]
  by_cases h4:(bt l 0-192) * 64+bt l 1-128<128
  ·rw [if_neg (by omega),if_pos (by omega)]
  ·rw [if_pos (by omega),if_neg (by omega)]
theorem dec_three {l:List UInt8} (h:224≤bt l 0) (h2:bt l 0<240):dec1 l=if l.length≤2∨(bt l 1<128∨191<bt l 1)∨(bt l 2<128∨191<bt l 2)∨((bt l 0-224) * 64+bt l 1-128) * 64+bt l 2-128<2048∨(55296≤((bt l 0-224) * 64+bt l 1-128) * 64+bt l 2-128∧((bt l 0-224) * 64+bt l 1-128) * 64+bt l 2-128<57344) then (65533,1) else (((bt l 0-224) * 64+bt l 1-128) * 64+bt l 2-128,3):=by
 have:=bt_lt l 1
 have:=bt_lt l 2
 unfold dec1 Lib.decodeN
 rw [if_neg (by omega),if_neg (by omega)]
 by_cases h3:l.length≤2∨(bt l 1<128∨191<bt l 1)∨(bt l 2<128∨191<bt l 2)
 ·rw [if_neg (by omega),if_neg (by omega),if_pos (by omega)]
 ·rw [if_pos (by omega)]
  have e:bt l 0 % 16 * 4096+bt l 1 % 64 * 64+bt l 2 % 64=((bt l 0-224) * 64+bt l 1-128) * 64+bt l 2-128:=by omega
  rw [e]
  obtain ⟨c,hc⟩:∃ c,c=((bt l 0-224) * 64+bt l 1-128) * 64+bt l 2-128:=⟨_,rfl⟩
  have hlt:c≤65535:=by omega
  rw [← hc]
  by_cases h4:c<2048∨(55296≤c∧c<57344)
  ·rw [if_neg (by omega),if_pos (by omega)]
  ·rw [if_pos (by omega),if_neg (by omega)]
theorem dec_four {l:List UInt8} (h:240≤bt l 0) (h2:bt l 0<248):dec1 l=if l.length≤3∨(bt l 1<128∨191<bt l 1)∨(bt l 2<128∨191<bt l 2)∨(bt l 3<128∨191<bt l 3)∨(((bt l 0-240) * 64+bt l 1-128) * 64+bt l 2-128) * 64+bt l 3-128<65536∨1114111<(((bt l 0-240) * 64+bt l 1-128) * 64+bt l 2-128) * 64+bt l 3-128 then (65533,1) else ((((bt l 0-240) * 64+bt l 1-128) * 64+bt l 2-128) * 64+bt l 3-128,4):=by
 have:=bt_lt l 1
 have:=bt_lt l 2
 have:=bt_lt l 3
 unfold dec1 Lib.decodeN
 rw [if_neg (by omega),if_neg (by omega),if_neg (by omega)]
 by_cases h3:l.length≤3∨(bt l 1<128∨191<bt l 1)∨(bt l 2<128∨191<bt l 2)∨(bt l 3<128∨191<bt l 3)
 ·rw [if_neg (by omega),if_pos (by omega)]
 ·rw [if_pos (by omega)]
  have e:bt l 0 % 8 * 262144+bt l 1 % 64 * 4096+bt l 2 % 64 * 64+bt l 3 % 64=(((bt l 0-240) * 64+bt l 1-128) * 64+bt l 2-128) * 64+bt l 3-128:=by omega
  rw [e]
  obtain ⟨c,hc⟩:∃ c,c=(((bt l 0-240) * 64+bt l 1-128) * 64+bt l 2-128) * 64+bt l 3-128:=⟨_,rfl⟩
  rw [← hc]
  by_cases h4:c<65536∨1114111<c
  ·rw [if_neg (by omega),if_pos (by omega)]
  ·rw [if_pos (by omega),if_neg (by omega)]
def askedM (l:List UInt8) (most:Int):Nat:=if l.length=0 then 2 else if most<l.length then 3 else if plainM l=false then 8 else 0
end
section
open Go.RowKit
def rev8T:List UInt8:=[0,128,64,192,32,160,96,224,16,144,80,208,48,176,112,240,8,136,72,200,40,168,104,232,24,152,88,216,56,184,120,248,4,132,68,196,36,164,100,228,20,148,84,212,52,180,116,244,12,140,76,204,44,172,108,236,28,156,92,220,60,188,124,252,2,130,66,194,34,162,98,226,18,146,82,210,50,178,114,242,10,138,74,202,42,170,106,234,26,154,90,218,58,186,122,250,6,134,70,198,38,166,102,230,22,150,86,214,54,182,118,246,14,142,78,206,46,174,110,238,30,158,94,222,62,190,126,254,1,129,65,193,33,161,97,225,17,145,81,209,49,177,113,241,9,137,73,201,41,169,105,233,25,153,89,217,57,185,121,249,5,133,69,197,37,165,101,229,21,149,85,213,53,181,117,245,13,141,77,205,45,173,109,237,29,157,93,221,61,189,125,253,3,131,67,195,35,163,99,227,19,147,83,211,51,179,115,243,11,139,75,203,43,171,107,235,27,155,91,219,59,187,123,251,7,135,71,199,39,167,103,231,23,151,87,215,55,183,119,247,15,143,79,207,47,175,111,239,31,159,95,223,63,191,127,255]
def len8T:List UInt8:=[0,1,2,2,3,3,3,3,4,4,4,4,4,4,4,4,5,5,5,5,5,5,5,5,5,5,5,5,5,5,5,5,6,6,6,6,6,6,6,6,6,6,6,6,6,6,6,6,6,6,6,6,6,6,6,6,6,6,6,6,6,6,6,6,7,7,7,7,7,7,7,7,7,7,7,7,7,7,7,7,7,7,7,7,7,7,7,7,7,7,7,7,7,7,7,7,7,7,7,7,7,7,7,7,7,7,7,7,7,7,7,7,7,7,7,7,7,7,7,7,7,7,7,7,7,7,7,7,8,8,8,8,8,8,8,8,8,8,8,8,8,8,8,8,8,8,8,8,8,8,8,8,8,8,8,8,8,8,8,8,8,8,8,8,8,8,8,8,8,8,8,8,8,8,8,8,8,8,8,8,8,8,8,8,8,8,8,8,8,8,8,8,8,8,8,8,8,8,8,8,8,8,8,8,8,8,8,8,8,8,8,8,8,8,8,8,8,8,8,8,8,8,8,8,8,8,8,8,8,8,8,8,8,8,8,8,8,8,8,8,8,8,8,8,8,8,8,8,8,8,8,8,8,8,8,8]
def ntz8T:List UInt8:=[8,0,1,0,2,0,1,0,3,0,1,0,2,0,1,0,4,0,1,0,2,0,1,0,3,0,1,0,2,0,1,0,5,0,1,0,2,0,1,0,3,0,1,0,2,0,1,0,4,0,1,0,2,0,1,0,3,0,1,0,2,0,1,0,6,0,1,0,2,0,1,0,3,0,1,0,2,0,1,0,4,0,1,0,2,0,1,0,3,0,1,0,2,0,1,0,5,0,1,0,2,0,1,0,3,0,1,0,2,0,1,0,4,0,1,0,2,0,1,0,3,0,1,0,2,0,1,0,7,0,1,0,2,0,1,0,3,0,1,0,2,0,1,0,4,0,1,0,2,0,1,0,3,0,1,0,2,0,1,0,5,0,1,0,2,0,1,0,3,0,1,0,2,0,1,0,4,0,1,0,2,0,1,0,3,0,1,0,2,0,1,0,6,0,1,0,2,0,1,0,3,0,1,0,2,0,1,0,4,0,1,0,2,0,1,0,3,0,1,0,2,0,1,0,5,0,1,0,2,0,1,0,3,0,1,0,2,0,1,0,4,0,1,0,2,0,1,0,3,0,1,0,2,0,1,0]
def rev8 (n:Nat):Nat:=(List.range 8).foldl (fun a i=>a+n / 2 ^ i % 2 * 2 ^ (7-i)) 0
def len8 (n:Nat):Nat:=(List.range 8).foldl (fun a i=>if n / 2 ^ i % 2=1 then i+1 else a) 0
def ntz8 (n:Nat):Nat:=(List.range 8).foldr (fun i a=>if n / 2 ^ i % 2=1 then i else a) 8
theorem all_lt {n:Nat} {p:Nat→Bool} (h:(List.range n).all p=true) {i:Nat} (hi:i<n):p i=true:=List.all_eq_true.1 h i (List.mem_range.2 hi)
theorem len8_bd {i:Nat} (h:i<256):i<2 ^ len8 i∧len8 i≤8∧(len8 i=0∨2 ^ (len8 i-1)≤i):=by
 have:=all_lt (n:=256) (p:=fun i=>decide (i<2 ^ len8 i∧len8 i≤8∧(len8 i=0∨2 ^ (len8 i-1)≤i))) (by decide +kernel) h
 simpa using this
def IsBl (m n:Nat):Prop:=m<2 ^ n∧(n=0∨2 ^ (n-1)≤m)
def bl (m:Nat):Nat:=if 256≤m then 8+len8 (m / 256) else len8 m
theorem bl_is {m:Nat} (h:m<65536):IsBl m (bl m)∧bl m≤16:=by
 unfold bl
 split
 ·obtain ⟨h1,h2,h3⟩:=len8_bd (i:=m / 256) (by omega)
  refine ⟨⟨?_,?_⟩,by omega⟩
  ·rw [Nat.pow_add];omega
  ·right
   rcases h3 with h3|h3
   ·rw [h3] at h1;simp at h1;omega
   ·rw [show 8+len8 (m / 256)-1=8+(len8 (m / 256)-1) by
     have:len8 (m / 256)≠0:=fun h=>by rw [h] at h1;simp at h1;omega
     omega,Nat.pow_add]
    omega
 ·obtain ⟨h1,h2,h3⟩:=len8_bd (i:=m) (by omega)
  exact ⟨⟨h1,h3⟩,by omega⟩
def rev16 (x:Nat):Nat:=rev8 (x / 256)+256 * rev8 (x % 256)
def flagsL (m:Nat):List UInt8:=UInt8.ofNat ((8-bl m % 8) % 8)::(if bl m=0 then [] else if bl m≤8 then [UInt8.ofNat (rev8 (m % 256))] else [UInt8.ofNat (rev8 (m % 256)),UInt8.ofNat (rev8 (m / 256))])
def maskM (b:List UInt8):Nat×Nat :=
 if b.length=0 then (0,2) else
 if 8≤(b.getD 0 0).toNat∨3<b.length∨(b.length=1∧0<(b.getD 0 0).toNat) then (0,4) else
 if b.length=1 then (0,0) else
 if ntz8 (b.getD (b.length-1) 0).toNat≠(b.getD 0 0).toNat then (0,4) else
 let m:=rev8 (b.getD 1 0).toNat+256 * (if b.length=3 then rev8 (b.getD 2 0).toNat else 0)
 if 32768≤m then (0,1) else (m,0)
theorem maskM_bd (b:List UInt8):(maskM b).2≤4∧(maskM b).1<32768:=by
 unfold maskM
 split
 ·exact ⟨by decide,by decide⟩
 ·split
  ·exact ⟨by decide,by decide⟩
  ·split
   ·exact ⟨by decide,by decide⟩
   ·split
    ·exact ⟨by decide,by decide⟩
    ·dsimp only
     generalize rev8 (b.getD 1 0).toNat+256 * (if b.length=3 then rev8 (b.getD 2 0).toNat else 0)=m
     split
     ·exact ⟨by decide,by decide⟩
     ·exact ⟨by show 0≤4;decide,by show m<32768;omega⟩
end
section
open Go.RowKit
theorem flags_len {m:Nat} (h:m<65536):(flagsL m).length=1+(bl m+7) / 8:=by
 have:=(bl_is h).2
 unfold flagsL
 split
 ·rename_i e;rw [e];rfl
 ·split
  ·simp;omega
  ·simp;omega
def lo8 (M i:Nat):Nat:=M % 2 ^ (min i 8)
def hi8 (M i:Nat):Nat:=M / 256 % 2 ^ (i-8)
def gF (M n i j:Nat):Nat:=if j=0 then (8-n % 8) % 8 else if j=1 then rev8 (lo8 M i) else rev8 (hi8 M i)
end
end Am
end Go.Proofs.YteolfpolmioalaaGreatDoor
namespace Go.Proofs.YteolfpolmioalaaGreatDoor
open Go.RowKit

def byte (n:Int):UInt8:=UInt8.ofNat (n % 256).toNat
theorem byte_toNat (n:Int):((byte n).toNat:Int)=n % 256:=by
 have h0:0≤n % 256:=Int.emod_nonneg _ (by decide)
 have h1:n % 256<256:=Int.emod_lt_of_pos _ (by decide)
 have:(byte n).toNat=(n % 256).toNat:=by
  unfold byte
  rw [UInt8.toNat_ofNat']
  omega
 omega
def sh:Nat→Int→Int
 | 0,n=>n
 | k+1,n=>sh k n / 256
def digs (k:Nat) (n:Int):List UInt8:=(List.range k).map fun j=>byte (sh j n)
theorem digs_length (k:Nat) (n:Int):(digs k n).length=k:=by simp [digs]
theorem digs_succ (k:Nat) (n:Int):digs (k+1) n=digs k n++[byte (sh k n)]:=by simp [digs,List.range_succ]
theorem digs_get (k:Nat) (n:Int) (j:Nat) (h:j<k):(digs k n).getD j 0=byte (sh j n):=by simp [digs,List.getD,h]
def stp (j:Nat) (n:Int):Bool:=(sh (j+1) n == 0 && decide (sh j n % 256<128)) || (sh (j+1) n == -1 && decide (128≤sh j n % 256))
theorem stp_iff (j:Nat) (n:Int):stp j n=true↔-128≤sh j n∧sh j n<128:=by
 simp only [stp,sh,Bool.or_eq_true,Bool.and_eq_true,beq_iff_eq,decide_eq_true_eq]
 constructor
 ·intro h;omega
 ·intro h;omega
theorem stp_mono (j:Nat) (n:Int) (h:stp j n=true):stp (j+1) n=true:=by
 rw [stp_iff] at h ⊢
 simp only [sh]
 omega
theorem stp_mono' (n:Int) (j m:Nat) (hjm:j≤m) (h:stp j n=true):stp m n=true:=by
 induction m with
 | zero =>
   obtain rfl:j=0:=by omega
   exact h
 | succ m ih =>
  by_cases e:j=m+1
  ·subst e;exact h
  ·exact stp_mono m n (ih (by omega))
theorem stp_seven (n:Int) (h1:-9223372036854775808≤n) (h2:n≤9223372036854775807):stp 7 n=true:=by
 rw [stp_iff]
 simp only [sh]
 omega
def IsLen (n:Int) (k:Nat):Prop:=k≤7∧stp k n=true∧∀ j,j<k→stp j n=false
theorem IsLen.unique {n:Int} {k m:Nat} (h:IsLen n k) (g:IsLen n m):k=m:=by
 rcases Nat.lt_trichotomy k m with h1|h1|h1
 ·have:=g.2.2 k h1;rw [h.2.1] at this;cases this
 ·exact h1
 ·have:=h.2.2 m h1;rw [g.2.1] at this;cases this

def sgn (c:UInt8):Int:=if c.toNat<128 then c.toNat else (c.toNat:Int)-256
def valS (l:List UInt8):Int:=match l with
 | []=>0
 | c::r=>r.foldl (fun a b=>a * 256+b.toNat) (sgn c)
theorem valS_snoc (l:List UInt8) (hl:l≠[]) (c:UInt8):valS (l++[c])=valS l * 256+c.toNat:=by
 cases l with
 | nil=>exact absurd rfl hl
 | cons x r=>simp [valS,List.foldl_append]
theorem valS_bound (l:List UInt8):∀ m,l.length=m+1→-(128 * 256 ^ m)≤valS l∧valS l<128 * 256 ^ m:=by
 intro m
 induction m generalizing l with
 | zero =>
  intro h
  match l,h with
  | [c],_ =>
   have:=c.toNat_lt
   simp only [valS,List.foldl_nil,sgn]
   split <;> omega
 | succ m ih =>
  intro h
  have hne:l≠[]:=by intro e;subst e;simp at h
  have e:l=l.dropLast++[l.getLast hne]:=(List.dropLast_concat_getLast hne).symm
  have hl:l.dropLast.length=m+1:=by simp;omega
  have hd:l.dropLast≠[]:=by intro e;rw [e] at hl;simp at hl
  have:=ih l.dropLast hl
  have hc:=(l.getLast hne).toNat_lt
  rw [e,valS_snoc _ hd]
  have hp:(256:Int) ^ (m+1)=256 ^ m * 256:=Int.pow_succ _ _
  rw [hp]
  generalize (256:Int) ^ m=p at this ⊢
  omega
theorem valS_small (l:List UInt8) (h:l.length≤7):-36028797018963968≤valS l∧valS l<36028797018963968:=by
 match l,h with
 | [],_=>show -36028797018963968≤(0:Int)∧(0:Int)<36028797018963968;omega
 | c::r,h =>
  simp only [List.length_cons] at h
  have:=valS_bound (c::r) r.length rfl
  have hp:((256:Int) ^ r.length)≤256 ^ 6:=by
   have:r.length=0∨r.length=1∨r.length=2∨r.length=3∨r.length=4∨r.length=5∨r.length=6:=by omega
   rcases this with h|h|h|h|h|h|h <;> rw [h] <;> decide
  have e6:(256:Int) ^ 6=281474976710656:=by decide
  omega
def idle (l:List UInt8):Bool:=match l with
 | a::b::_=>(a.toNat == 0 && decide (b.toNat<128)) || (a.toNat == 255 && decide (128≤b.toNat))
 | _=>false
def getM (l:List UInt8):Int×Nat :=
 if l.length=0 then (0,2) else if idle l=true then (0,4) else if 8<l.length then (0,1) else (valS l,0)

theorem digs_rev_cons (k:Nat) (n:Int):(digs (k+2) n).reverse=byte (sh (k+1) n)::byte (sh k n)::(digs k n).reverse:=by
 rw [digs_succ,digs_succ]
 simp
theorem idle_digs (n:Int) (k:Nat) (h:stp (k+1) n=true):idle (digs (k+2) n).reverse=stp k n:=by
 rw [digs_rev_cons]
 rw [stp_iff] at h
 have e:=stp_iff k n
 rw [Bool.eq_iff_iff,e]
 simp only [idle,Bool.or_eq_true,Bool.and_eq_true,beq_iff_eq,decide_eq_true_eq]
 have h1:=byte_toNat (sh (k+1) n)
 have h2:=byte_toNat (sh k n)
 simp only [sh] at h h1 h2 ⊢
 omega
theorem i64_join (m c:Int) (h1:-36028797018963968≤m) (h2:m<36028797018963968) (h3:0≤c) (h4:c<256):bits .or .i64 (m * 256) c=m * 256+c:=by
 show IntKind.i64.wrap ((BitVec.ofInt 64 (m * 256) ||| BitVec.ofInt 64 c).toNat:Int)=_
 rw [BitVec.toNat_or,BitVec.toNat_ofInt,BitVec.toNat_ofInt]
 have e1:(c % ((2 ^ 64:Nat):Int)).toNat=c.toNat:=by
  have:((2 ^ 64:Nat):Int)=18446744073709551616:=by decide
  rw [this];omega
 have e2:(m * 256 % ((2 ^ 64:Nat):Int)).toNat=(m * 256 % 18446744073709551616).toNat:=by
  have:((2 ^ 64:Nat):Int)=18446744073709551616:=by decide
  rw [this]
 rw [e1,e2,nat_join 8 _ _ (by omega) (by omega),IntKind.wrap_i64]
 omega
theorem digs_rev_get (n:Int) (k i:Nat) (h:i<k):(digs k n).reverse.getD i 0=byte (sh (k-1-i) n):=by
 have hl:i<(digs k n).length:=by rw [digs_length];exact h
 simp only [List.getD,List.getElem?_reverse hl,digs_length]
 have:=digs_get k n (k-1-i) (by omega)
 simpa [List.getD] using this
end Go.Proofs.YteolfpolmioalaaGreatDoor
namespace Go.Proofs.YteolfpolmioalaaGreatDoor
open Go.RowKit

def fig (d:Nat):UInt8:=byte (48+d:Nat)
def dec (n:Nat):List UInt8:=if n<10 then [fig n] else dec (n / 10)++[fig (n % 10)]
termination_by n

def isFig (c:UInt8):Bool:=decide (48≤c.toNat) && decide (c.toNat≤57)
def valD (l:List UInt8):Nat:=l.foldl (fun a c=>10 * a+(c.toNat-48)) 0
def figM (l:List UInt8):Nat×Nat:=if l.length=0∨18<l.length∨(1<l.length∧(l.getD 0 0).toNat=48)∨l.all isFig=false then (0,4) else (valD l,0)

theorem dec_small {n:Nat} (h:n<10):dec n=[fig n]:=by rw [dec,if_pos h]
theorem dec_big {n:Nat} (h:¬ n<10):dec n=dec (n / 10)++[fig (n % 10)]:=by rw [dec,if_neg h]
theorem fig_toNat (n:Nat) (h:n<10):(fig n).toNat=48+n:=by
 unfold fig
 have:=byte_toNat ((48+n:Nat):Int)
 omega
theorem valD_append (l:List UInt8) (c:UInt8):valD (l++[c])=10 * valD l+(c.toNat-48):=by simp [valD]

theorem dec_ind {p:Nat→Prop} (h0:∀ n,n<10→p n) (h1:∀ n,¬ n<10→p (n / 10)→p n) (n:Nat):p n:=by
 induction n using Nat.strongRecOn with
 | ind n ih =>
  by_cases h:n<10
  ·exact h0 n h
  ·exact h1 n h (ih _ (by omega))

theorem dec_pos (n:Nat):0<(dec n).length:=by
 by_cases h:n<10
 ·rw [dec_small h];simp
 ·rw [dec_big h];simp
theorem dec_figs (n:Nat):(dec n).all isFig=true:=by
 induction n using dec_ind with
 | h0 n h =>
  rw [dec_small h]
  have:=fig_toNat n h
  simp [isFig,this];omega
 | h1 n h ih =>
  rw [dec_big h,List.all_append,ih]
  have:=fig_toNat (n % 10) (by omega)
  simp [isFig,this];omega
theorem dec_head (n:Nat):1<(dec n).length→((dec n).getD 0 0).toNat≠48:=by
 induction n using dec_ind with
 | h0 n h=>rw [dec_small h];simp
 | h1 n h ih =>
  intro _
  rw [dec_big h]
  have hp:=dec_pos (n / 10)
  have e:(dec (n / 10)++[fig (n % 10)]).getD 0 0=(dec (n / 10)).getD 0 0:=by
   simp only [List.getD,List.getElem?_append_left hp]
  rw [e]
  by_cases hs:n / 10<10
  ·rw [dec_small hs]
   have:=fig_toNat (n / 10) hs
   simp only [List.getD,List.getElem?_cons_zero,Option.getD_some]
   omega
  ·apply ih
   rw [dec_big hs]
   have:=dec_pos (n / 10 / 10)
   simp
   omega
theorem dec_len (k:Nat):∀ n,n<10 ^ (k+1)→(dec n).length≤k+1:=by
 induction k with
 | zero=>intro n h;rw [dec_small (by simpa using h)];simp
 | succ k ih =>
  intro n h
  by_cases hs:n<10
  ·rw [dec_small hs];simp
  ·rw [dec_big hs]
   have:=ih (n / 10) (by rw [Nat.pow_succ] at h;omega)
   simp;omega
theorem snoc_ind {p:List UInt8→Prop} (h0:p []) (h1:∀ l c,p l→p (l++[c])) (l:List UInt8):p l:=by
 have h:∀ l:List UInt8,p l.reverse:=by
  intro l
  induction l with
  | nil=>exact h0
  | cons c l ih=>rw [List.reverse_cons];exact h1 _ _ ih
 have:=h l.reverse
 rwa [List.reverse_reverse] at this
theorem all_snoc {l:List UInt8} {c:UInt8} (h:(l++[c]).all isFig=true):l.all isFig=true∧48≤c.toNat∧c.toNat≤57:=by
 simp only [List.all_append,List.all_cons,List.all_nil,Bool.and_true,Bool.and_eq_true,isFig,decide_eq_true_eq] at h
 exact ⟨by simpa [isFig] using h.1,h.2⟩
theorem head_snoc {l:List UInt8} {c:UInt8} (h:0<l.length):(l++[c]).getD 0 0=l.getD 0 0:=by
 simp only [List.getD,List.getElem?_append_left h]
theorem valD_lt (l:List UInt8):l.all isFig=true→valD l<10 ^ l.length:=by
 induction l using snoc_ind with
 | h0=>intro _;simp [valD]
 | h1 l c ih =>
  intro h
  obtain ⟨h1,h2,h3⟩:=all_snoc h
  have:=ih h1
  rw [valD_append,List.length_append,List.length_singleton,Nat.pow_succ]
  omega
theorem valD_lt17 {l:List UInt8} (h:l.all isFig=true) (hl:l.length≤17):valD l<100000000000000000 :=
 Nat.lt_of_lt_of_le (valD_lt l h) (Nat.le_trans (Nat.pow_le_pow_right (by decide) hl) (by decide))
theorem valD_lt18 {l:List UInt8} (h:l.all isFig=true) (hl:l.length≤18):valD l<1000000000000000000 :=
 Nat.lt_of_lt_of_le (valD_lt l h) (Nat.le_trans (Nat.pow_le_pow_right (by decide) hl) (by decide))
theorem valD_pos (l:List UInt8):0<l.length→l.all isFig=true→(l.getD 0 0).toNat≠48→0<valD l:=by
 induction l using snoc_ind with
 | h0=>simp
 | h1 l c ih =>
  intro _ h hh
  obtain ⟨h1,h2,h3⟩:=all_snoc h
  rw [valD_append]
  by_cases hl:l=[]
  ·subst hl
   simp only [List.nil_append,List.getD,List.getElem?_cons_zero,Option.getD_some] at hh
   omega
  ·have hp:=List.length_pos_iff.2 hl
   rw [head_snoc hp] at hh
   have:=ih hp h1 hh
   omega
theorem fig_back {c:UInt8} (h2:48≤c.toNat):fig (c.toNat-48)=c:=by
 unfold fig
 apply UInt8.toNat_inj.1
 have:=byte_toNat ((48+(c.toNat-48):Nat):Int)
 have:=c.toNat_lt
 omega
theorem dec_valD (l:List UInt8):0<l.length→l.all isFig=true→(1<l.length→(l.getD 0 0).toNat≠48)→dec (valD l)=l:=by
 induction l using snoc_ind with
 | h0=>simp
 | h1 l c ih =>
  intro _ h hh
  obtain ⟨h1,h2,h3⟩:=all_snoc h
  rw [valD_append]
  by_cases hl:l=[]
  ·subst hl
   show dec (10 * 0+(c.toNat-48))=[c]
   rw [Nat.mul_zero,Nat.zero_add,dec_small (by omega),fig_back h2]
  ·have hp:=List.length_pos_iff.2 hl
   rw [head_snoc hp] at hh
   have h0:=hh (by simp;omega)
   have hv:=valD_pos l hp h1 h0
   rw [dec_big (by omega),show (10 * valD l+(c.toNat-48)) / 10=valD l by omega,show (10 * valD l+(c.toNat-48)) % 10=c.toNat-48 by omega,fig_back h2,ih hp h1 (fun _=>h0)]
theorem figM_ref (l:List UInt8):figM l=if 1≤l.length∧l.length≤18∧l.all isFig=true∧dec (valD l)=l then (valD l,0) else (0,4):=by
 unfold figM
 split
 ·rename_i h
  rw [if_neg]
  rintro ⟨h1,h2,h3,h4⟩
  rcases h with h|h|⟨h,h'⟩|h
  ·omega
  ·omega
  ·rw [← h4] at h h'
   exact dec_head _ h h'
  ·rw [h3] at h;cases h
 ·rename_i h
  have h1:¬ l.length=0:=fun e=>h (.inl e)
  have h2:¬ 18<l.length:=fun e=>h (.inr (.inl e))
  have h3:l.all isFig=true:=by
   cases e:l.all isFig with
   | true=>rfl
   | false=>exact absurd (.inr (.inr (.inr e))) h
  have h4:1<l.length→(l.getD 0 0).toNat≠48:=fun a b=>h (.inr (.inr (.inl ⟨a,b⟩)))
  rw [if_pos ⟨by omega,by omega,h3,dec_valD l (by omega) h3 h4⟩]
theorem dec_step {m:Nat} (h:0<m) (o:List UInt8):(if m=0 then [] else dec m)++o.reverse=(if m / 10=0 then [] else dec (m / 10))++(o++[fig (m % 10)]).reverse:=by
 rw [if_neg (by omega),List.reverse_append,List.reverse_singleton,List.singleton_append]
 by_cases hs:m<10
 ·rw [dec_small hs,if_pos (by omega),show m % 10=m by omega];rfl
 ·rw [dec_big hs,if_neg (by omega),List.append_assoc];rfl
theorem dec_first (n:Nat):dec n=(if n / 10=0 then [] else dec (n / 10))++[fig (n % 10)].reverse:=by
 by_cases hs:n<10
 ·rw [dec_small hs,if_pos (by omega),show n % 10=n by omega];rfl
 ·rw [dec_big hs,if_neg (by omega)];rfl
theorem fig_int (n:Nat):((fig (n % 10)).toNat:Int)=48+(n:Int) % 10:=by
 have:=fig_toNat (n % 10) (by omega)
 omega
theorem take_snoc (l:List UInt8) (i:Nat) (h:i<l.length):l.take (i+1)=l.take i++[l.getD i 0]:=by
 rw [List.take_succ_eq_append_getElem h]
 simp [List.getD,List.getElem?_eq_getElem h]
theorem all_of_bad {l:List UInt8} {i:Nat} (hi:i<l.length) (h:isFig (l.getD i 0)=false):l.all isFig=false:=by
 cases e:l.all isFig with
 | false=>rfl
 | true =>
  rw [List.all_eq_true] at e
  have:=e (l.getD i 0) (by simp [List.getD,List.getElem?_eq_getElem hi])
  rw [h] at this
  cases this
end Go.Proofs.YteolfpolmioalaaGreatDoor
namespace Go.Proofs.YteolfpolmioalaaGreatDoor
set_option linter.unusedVariables false
namespace Am
section
open Go.RowKit
def consHead (x:UInt8):List (List UInt8)→List (List UInt8)
 | []=>[[x]]
 | p::r=>(x::p)::r
def splitC (c:UInt8):List UInt8→List (List UInt8)
 | []=>[[]]
 | x::l=>if x=c then []::splitC c l else consHead x (splitC c l)
def joinC (c:UInt8):List (List UInt8)→List UInt8
 | []=>[]
 | [p]=>p
 | p::q::r=>p++c::joinC c (q::r)
theorem splitC_ne (c:UInt8) (l:List UInt8):splitC c l≠[]:=by
 cases l with
 | nil=>simp [splitC]
 | cons x l =>
  rw [splitC]
  split
  ·simp
  ·cases splitC c l <;> simp [consHead]
theorem splitC_none {c:UInt8}:∀ {l:List UInt8},c ∉ l→splitC c l=[l]
 | [],_=>rfl
 | x::l,h=>by
  have h1:x≠c:=fun e=>h (by simp [e])
  have h2:c ∉ l:=fun e=>h (by simp [e])
  rw [splitC,if_neg h1,splitC_none h2];rfl
theorem splitC_at {c:UInt8}:∀ {p:List UInt8} (r:List UInt8),c ∉ p→splitC c (p++c::r)=p::splitC c r
 | [],r,_=>by simp [splitC]
 | x::l,r,h=>by
  have h1:x≠c:=fun e=>h (by simp [e])
  have h2:c ∉ l:=fun e=>h (by simp [e])
  rw [List.cons_append,splitC,if_neg h1,splitC_at r h2];rfl
theorem join_head (c:UInt8) (x:UInt8):∀ ls:List (List UInt8),ls≠[]→joinC c (consHead x ls)=x::joinC c ls
 | [],h=>absurd rfl h
 | [p],_=>rfl
 | p::q::r,_=>rfl
theorem join_split (c:UInt8):∀ l:List UInt8,joinC c (splitC c l)=l
 | []=>rfl
 | x::l=>by
  rw [splitC]
  have ih:=join_split c l
  have hne:=splitC_ne c l
  split
  ·rename_i e
   subst e
   revert ih hne
   cases splitC x l with
   | nil=>intro _ h;exact absurd rfl h
   | cons p r=>intro ih _;rw [joinC,ih];rfl
  ·rw [join_head c x _ hne,ih]
def okP (p:List UInt8):Bool:=decide ((figM p).2=0) && decide (p.length≤10)
def valP (p:List UInt8):Int:=((figM p).1:Nat)
def rightA (l:List Int):Bool:=decide (2≤l.length) && decide (l.length≤16) && l.all (fun n=>decide (0≤n) && decide (n≤2147483647)) && decide (l.getD 0 0≤2) && (decide (l.getD 0 0=2) || decide (l.getD 1 0<40))
def parseM (s:List UInt8):List Int×Nat :=
 if ((splitC 46 s).all okP)=false then ([],4) else if rightA ((splitC 46 s).map valP)=false then ([],1) else ((splitC 46 s).map valP,0)

def sepHi (m:Nat):List UInt8:=if h:m=0 then [] else sepHi (m / 128)++[UInt8.ofNat (m % 128+128)]
termination_by m
decreasing_by omega
def sepL (n:Nat):List UInt8:=sepHi (n / 128)++[UInt8.ofNat (n % 128)]
theorem sepHi_zero:sepHi 0=[]:=by rw [sepHi];simp
theorem sepHi_pos {m:Nat} (h:m≠0):sepHi m=sepHi (m / 128)++[UInt8.ofNat (m % 128+128)]:=by rw [sepHi,dif_neg h]
theorem sepHi_len (k:Nat):∀ m,m<128 ^ k→(sepHi m).length≤k:=by
 induction k with
 | zero =>
   intro m h;have:m=0:=by simpa using h
   subst this;rw [sepHi_zero];simp
 | succ k ih =>
  intro m h
  by_cases h0:m=0
  ·subst h0;rw [sepHi_zero];simp
  ·rw [sepHi_pos h0,List.length_append]
   have:=ih (m / 128) (Nat.div_lt_of_lt_mul (by rw [Nat.pow_succ] at h;omega))
   simp;omega
theorem sepL_len {n:Nat} (h:n<34359738368):(sepL n).length≤5:=by
 have:=sepHi_len 4 (n / 128) (by omega)
 simp [sepL];omega
def valSO (l:List UInt8):Nat:=l.foldl (fun a c=>a * 128+c.toNat % 128) 0
theorem valSO_snoc (l:List UInt8) (c:UInt8):valSO (l++[c])=valSO l * 128+c.toNat % 128:=by simp [valSO]
def runLen:List UInt8→Nat
 | []=>0
 | c::l=>if c.toNat<128 then 1 else 1+runLen l
theorem runLen_le:∀ l:List UInt8,runLen l≤l.length
 | []=>Nat.le_refl _
 | c::l=>by
  have:=runLen_le l
  rw [runLen];split <;> simp <;> omega
theorem runLen_pos {l:List UInt8} (h:l≠[]):0<runLen l:=by
 cases l with
 | nil=>exact absurd rfl h
 | cons c l=>rw [runLen];split <;> omega
theorem runLen_app {l:List UInt8} (h:∀ c ∈ l,128≤c.toNat) (x:UInt8) (hx:x.toNat<128) (r:List UInt8):runLen (l++x::r)=l.length+1:=by
 induction l with
 | nil=>simp [runLen,hx]
 | cons c l ih =>
  have h1:=h c (by simp)
  rw [List.cons_append,runLen,if_neg (by omega),ih (fun d hd=>h d (by simp [hd]))]
  simp;omega
def numM (run:List UInt8) (most:Nat):Nat×Nat :=
 if 128≤(run.getD (run.length-1) 0).toNat then (0,2) else if (run.getD 0 0).toNat=128 then (0,4) else if most<valSO run then (0,1) else (valSO run,0)
def numsM (most:Nat) (b:List UInt8):List Nat×Nat :=
 if h:b=[] then ([],0) else
  if (numM (b.take (runLen b)) most).2≠0 then ([],(numM (b.take (runLen b)) most).2) else
   if (numsM 2147483647 (b.drop (runLen b))).2≠0 then ([],(numsM 2147483647 (b.drop (runLen b))).2) else
    ((numM (b.take (runLen b)) most).1::(numsM 2147483647 (b.drop (runLen b))).1,0)
termination_by b.length
decreasing_by
 all_goals
  have:=runLen_pos h
  have:=List.length_pos_iff.2 h
  simp;omega
def arcsOf:List Nat→List Int
 | []=>[]
 | n::r=>(min (n / 40) 2:Nat)::((n:Int)-40 * (min (n / 40) 2:Nat))::r.map Int.ofNat
def getA (b:List UInt8):List Int×Nat :=
 if b=[] then ([],2) else if (numsM 2147483727 b).2≠0 then ([],(numsM 2147483727 b).2) else
  if rightA (arcsOf (numsM 2147483727 b).1)=false then ([],1) else (arcsOf (numsM 2147483727 b).1,0)
def putA (l:List Int):List UInt8:=sepL (40 * l.getD 0 0+l.getD 1 0).toNat++((l.drop 2).map fun n=>sepL n.toNat).flatten
theorem right_at {l:List Int} (h:rightA l=true):2≤l.length∧l.length≤16∧(∀ n ∈ l,0≤n∧n≤2147483647)∧l.getD 0 0≤2∧(l.getD 0 0=2∨l.getD 1 0<40):=by
 simp only [rightA,Bool.and_eq_true,Bool.or_eq_true,decide_eq_true_eq,List.all_eq_true] at h
 obtain ⟨⟨⟨⟨h1,h2⟩,h3⟩,h4⟩,h5⟩:=h
 exact ⟨h1,h2,fun n hn=>h3 n hn,h4,h5⟩
def textL (l:List Int):List UInt8:=joinC 46 (l.map fun n=>dec n.toNat)
theorem parse_right {s:List UInt8} {l:List Int} (h:parseM s=(l,0)):rightA l=true∧(splitC 46 s).all okP=true∧l=(splitC 46 s).map valP:=by
 unfold parseM at h
 split at h
 ·simp at h
 rename_i h1
 split at h
 ·simp at h
 rename_i h2
 simp at h
 subst h
 exact ⟨by simpa using h2,by simpa using h1,rfl⟩
def cmpA:List Int→List Int→Int
 | [],[]=>0
 | [],_::_=>-1
 | _::_,[]=>1
 | a::l,b::r=>if a<b then -1 else if b<a then 1 else cmpA l r
def underA (x y:List Int):Bool:=decide (y.length≤x.length) && decide (x.take y.length=y)
end
section
open Go.RowKit
def runsL (b:List UInt8):List (List UInt8):=if h:b=[] then [] else b.take (runLen b)::runsL (b.drop (runLen b))
termination_by b.length
decreasing_by
 have:=runLen_pos h
 have:=List.length_pos_iff.2 h
 simp;omega
theorem runsL_nil:runsL []=[]:=by rw [runsL];simp
theorem runsL_cons {b:List UInt8} (h:b≠[]):runsL b=b.take (runLen b)::runsL (b.drop (runLen b)):=by rw [runsL,dif_neg h]
theorem runs_pos:∀ (n:Nat) (b:List UInt8),b.length≤n→∀ r ∈ runsL b,0<r.length:=by
 intro n
 induction n with
 | zero =>
  intro b hb r hr
  have:b=[]:=List.length_eq_zero_iff.1 (by omega)
  subst this
  rw [runsL_nil] at hr;cases hr
 | succ n ih =>
  intro b hb r hr
  by_cases h:b=[]
  ·subst h;rw [runsL_nil] at hr;cases hr
  ·rw [runsL_cons h] at hr
   have h1:=runLen_pos h
   have h2:=runLen_le b
   rcases List.mem_cons.1 hr with rfl|hr
   ·rw [List.length_take];omega
   ·exact ih _ (by rw [List.length_drop];omega) r hr
theorem runs_len:∀ (n:Nat) (b:List UInt8),b.length≤n→(runsL b).length≤b.length:=by
 intro n
 induction n with
 | zero =>
  intro b hb
  have:b=[]:=List.length_eq_zero_iff.1 (by omega)
  subst this
  rw [runsL_nil];exact Nat.le_refl _
 | succ n ih =>
  intro b hb
  by_cases h:b=[]
  ·subst h;rw [runsL_nil];exact Nat.le_refl _
  ·rw [runsL_cons h]
   have h1:=runLen_pos h
   have h2:=runLen_le b
   have:=ih (b.drop (runLen b)) (by rw [List.length_drop];omega)
   rw [List.length_drop] at this
   simp only [List.length_cons];omega
def resL (most:Nat):List (List UInt8)→List (Nat×Nat)
 | []=>[]
 | r::t=>numM r most::resL 2147483647 t
theorem resL_len:∀ (most:Nat) (l:List (List UInt8)),(resL most l).length=l.length
 | _,[]=>rfl
 | most,r::t=>by rw [resL,List.length_cons,resL_len,List.length_cons]
theorem resL_get:∀ (most:Nat) (l:List (List UInt8)) (k:Nat),k<l.length→(resL most l).getD k (0,0)=numM (l.getD k []) (if k=0 then most else 2147483647)
 | _,[],k,h=>absurd h (Nat.not_lt_zero k)
 | most,r::t,0,_=>rfl
 | most,r::t,k+1,h=>by
  have:=resL_get 2147483647 t k (by simpa using h)
  rw [resL,List.getD_cons_succ,List.getD_cons_succ,this,if_neg (Nat.succ_ne_zero k)]
  split <;> rfl
def errL:List (Nat×Nat)→Nat
 | []=>0
 | x::t=>if x.2=0 then errL t else x.2
theorem errL_app {l r:List (Nat×Nat)} (h:errL l=0):errL (l++r)=errL r:=by
 induction l with
 | nil=>rfl
 | cons x t ih =>
  rw [errL] at h
  split at h
  ·rename_i hx
   rw [List.cons_append,errL,if_pos hx,ih h]
  ·rename_i hx;exact absurd h hx
theorem errL_one {l:List (Nat×Nat)} {k:Nat} (hk:k<l.length) (h:errL (l.take k)=0):errL (l.take (k+1))=(l.getD k (0,0)).2:=by
 rw [List.take_succ_eq_append_getElem hk,errL_app h]
 simp only [errL,List.getD,List.getElem?_eq_getElem hk,Option.getD_some]
 split <;> simp_all
theorem errL_bad {l:List (Nat×Nat)} {k:Nat} (hk:k<l.length) (h:errL (l.take k)=0) (h2:(l.getD k (0,0)).2≠0):errL l=(l.getD k (0,0)).2:=by
 have e:errL (l.take k++l.drop k)=errL (l.drop k):=errL_app h
 rw [List.take_append_drop] at e
 rw [e,List.drop_eq_getElem_cons hk,errL]
 simp only [List.getD,List.getElem?_eq_getElem hk,Option.getD_some] at h2 ⊢
 rw [if_neg h2]
theorem nums_res:∀ (n:Nat) (b:List UInt8) (most:Nat),b.length≤n→numsM most b=if errL (resL most (runsL b))=0 then ((resL most (runsL b)).map (·.1),0) else ([],errL (resL most (runsL b))):=by
 intro n
 induction n with
 | zero =>
  intro b most hb
  have:b=[]:=List.length_eq_zero_iff.1 (by omega)
  subst this
  rw [numsM,runsL_nil];rfl
 | succ n ih =>
  intro b most hb
  by_cases h:b=[]
  ·subst h;rw [numsM,runsL_nil];rfl
  ·have h1:=runLen_pos h
   have h2:=runLen_le b
   have hi:=ih (b.drop (runLen b)) 2147483647 (by rw [List.length_drop];omega)
   rw [numsM,dif_neg h,hi,runsL_cons h,resL,errL]
   by_cases e:(numM (b.take (runLen b)) most).2=0
   ·rw [if_neg (by simp [e]),if_pos e]
    by_cases e2:errL (resL 2147483647 (runsL (b.drop (runLen b))))=0
    ·rw [if_pos e2,if_pos e2,if_neg (by simp),List.map_cons]
    ·rw [if_neg e2,if_neg e2,if_pos e2]
   ·rw [if_pos e,if_neg e,if_neg e]
theorem arcs_snoc {l:List Nat} (n:Nat) (h:l≠[]):arcsOf (l++[n])=arcsOf l++[(n:Int)]:=by
 cases l with
 | nil=>exact absurd rfl h
 | cons a r=>simp [arcsOf]
theorem arcs_len (l:List Nat):(arcsOf l).length≤l.length+1∧(l≠[]→2≤(arcsOf l).length):=by
 cases l with
 | nil=>exact ⟨by simp [arcsOf],fun h=>absurd rfl h⟩
 | cons a r=>simp [arcsOf]
def putM (s:List UInt8):List UInt8:=if (parseM s).2=0 then putA (parseM s).1 else []
def resB (b:List UInt8):List (Nat×Nat):=resL 2147483727 (runsL b)
theorem resB_len (b:List UInt8):(resB b).length=(runsL b).length:=resL_len _ _
theorem nums_resB (b:List UInt8):numsM 2147483727 b=if errL (resB b)=0 then ((resB b).map (·.1),0) else ([],errL (resB b)):=nums_res b.length b 2147483727 (Nat.le_refl _)
theorem getA_nil:getA []=([],2):=by unfold getA;rw [if_pos rfl]
theorem getA_bad {b:List UInt8} (hb:b≠[]) (h:errL (resB b)≠0):getA b=([],errL (resB b)):=by
 unfold getA
 have:=nums_resB b
 rw [if_neg h] at this
 rw [if_neg hb,this,if_pos h]
theorem getA_good {b:List UInt8} (hb:b≠[]) (h:errL (resB b)=0):getA b=if rightA (arcsOf ((resB b).map (·.1)))=false then ([],1) else (arcsOf ((resB b).map (·.1)),0):=by
 unfold getA
 have:=nums_resB b
 rw [if_pos h] at this
 rw [if_neg hb,this,if_neg (by simp)]
def textM (l:List Int):List UInt8×Nat:=if rightA l=true then (textL l,0) else ([],1)
def ogetM (b:List UInt8):List UInt8×Nat:=if (getA b).2=0 then (textL (getA b).1,0) else ([],(getA b).2)
theorem get_text {b:List UInt8} (hb:b≠[]) (h:errL (resB b)=0):ogetM b=textM (arcsOf ((resB b).map (·.1))):=by
 unfold ogetM textM
 rw [getA_good hb h]
 cases rightA (arcsOf ((resB b).map (·.1))) <;> simp
theorem get_err {b:List UInt8} (hb:b≠[]) (h:errL (resB b)≠0):ogetM b=([],errL (resB b)):=by
 unfold ogetM
 rw [getA_bad hb h,if_neg h]
theorem get_nil:ogetM []=([],2):=by unfold ogetM;rw [getA_nil,if_neg (by decide)]
theorem join_lib (c:UInt8):∀ ls:List (List UInt8),Lib.join ls [c]=joinC c ls
 | []=>rfl
 | [p]=>Lib.join_one p [c]
 | p::q::r=>by
  have ih:=join_lib c (q::r)
  rw [Lib.join_cons] at ih ⊢
  rw [joinC,← ih]
  simp [Lib.joinTail]
theorem join_len {c:UInt8} {m:Nat}:∀ {ls:List (List UInt8)},(∀ p ∈ ls,p.length≤m)→(joinC c ls).length≤(m+1) * ls.length
 | [],_=>Nat.zero_le _
 | [p],h=>by have:=h p (by simp);simp [joinC];omega
 | p::q::r,h=>by
  have h1:=h p (by simp)
  have ih:=join_len (c:=c) (m:=m) (ls:=q::r) fun x hx=>h x (by simp at hx ⊢;exact .inr hx)
  rw [joinC,List.length_append,List.length_cons,List.length_cons,Nat.mul_succ]
  omega
theorem low_run (l:List UInt8) (p:UInt8→Bool) (hp:∀ c,p c=decide (c.toNat<128)):(runLen l:Int)=if firstI p l<0 then (l.length:Int) else firstI p l+1:=by
 induction l with
 | nil=>simp [runLen,firstI]
 | cons c l ih =>
  have hb:=firstI_bd p l
  rw [runLen,firstI,hp]
  by_cases hc:c.toNat<128
  ·simp [hc]
  ·simp only [hc,decide_false,if_false,Bool.false_eq_true]
   by_cases hn:firstI p l<0
   ·rw [if_pos hn] at ih
    rw [if_pos hn,if_pos (by decide)]
    simp only [List.length_cons];omega
   ·rw [if_neg hn] at ih
    rw [if_neg hn,if_neg (by omega)]
    omega
end
end Am
end Go.Proofs.YteolfpolmioalaaGreatDoor
namespace Go.Proofs.YteolfpolmioalaaGreatDoor.Cal
set_option linter.unusedVariables false

structure D6 where
 y:Int
 m:Int
 d:Int
 h:Int
 mi:Int
 s:Int

def leapM (y:Int):Bool:=y % 4 == 0 && (y % 100 != 0 || y % 400 == 0)
def daysM (y m:Int):Int :=
 if m=4∨m=6∨m=9∨m=11 then 30 else if m=2 then (if leapM y then 29 else 28) else if m<1∨m>12 then 0 else 31
def bf (y:Int):Int:=365 * (y-1)+(y-1) / 4-(y-1) / 100+(y-1) / 400+306-719468
def cum (y m:Int):Int :=
 if m≤2 then 31 * (m-1) else (153 * (m-3)+2) / 5+59+(if leapM y then 1 else 0)
def dn (y m d:Int):Int:=bf y+cum y m+d-1

def RightP (x:D6):Prop:=1970≤x.y∧x.y≤9999∧1≤x.d∧x.d≤daysM x.y x.m∧0≤x.h∧x.h<24∧0≤x.mi∧x.mi<60∧0≤x.s∧x.s<60
instance (x:D6):Decidable (RightP x):=by unfold RightP;infer_instance
def secM (x:D6):Int:=((dn x.y x.m x.d * 24+x.h) * 60+x.mi) * 60+x.s

def yr (n:Int):Int:=(n-n / 1460+n / 36524-n / 146096) / 365
structure Parts where
 ages:Int
 y:Int
 m:Int
 d:Int
def partsM (N:Int):Parts :=
 let n:=N+719468
 let r:=n % 146097
 let y:=yr r
 let n2:=r-(365 * y+y / 4-y / 100)
 let m:=(5 * n2+2) / 153
 ⟨n / 146097,y,m,n2-(153 * m+2) / 5+1⟩
def yOf (N:Int):Int:=(partsM N).ages * 400+(partsM N).y+if (partsM N).m+3>12 then 1 else 0
def mOf (N:Int):Int:=if (partsM N).m+3>12 then (partsM N).m+3-12 else (partsM N).m+3
def dOf (N:Int):Int:=(partsM N).d

def inT (t:Int):Prop:=0≤t∧t≤253402300799
instance (t:Int):Decidable (inT t):=by unfold inT;infer_instance
def D6.zero:D6:=⟨0,0,0,0,0,0⟩
def ofR6 (t:Int):D6:=⟨yOf (t / 86400),mOf (t / 86400),dOf (t / 86400),t % 86400 / 3600,t % 86400 % 3600 / 60,t % 86400 % 60⟩
def ofM (t:Int):D6:=if inT t then ofR6 t else D6.zero
def ofE (t:Int):Nat:=if inT t then 0 else 1
end Go.Proofs.YteolfpolmioalaaGreatDoor.Cal
namespace Go.Proofs.YteolfpolmioalaaGreatDoor
set_option linter.unusedVariables false
namespace Am
section
variable {gs:List Nat} [Ok9 gs]
open Go.RowKit Cal
set_option linter.unusedVariables false

def dF (x:D6) (i:Nat):CV:=match i with|0=>.c (.int .i64 x.y)|1=>.c (.int .i64 x.m)|2=>.c (.int .i64 x.d)|3=>.c (.int .i64 x.h)|4=>.c (.int .i64 x.mi)|_=>.c (.int .i64 x.s)
def dateC (x:D6):CV:=.agg 6 (dF x)
end
section
variable {gs:List Nat} [Ok9 gs]
open Go.RowKit Cal
set_option linter.unusedVariables false

def figc (n p:Int):UInt8:=UInt8.ofNat (48+n / p % 10).toNat
def figL (n:Int) (ps:List Int):List UInt8:=ps.map (figc n)
def bodyL (x:D6):List UInt8:=figL x.y [1000,100,10,1]++figL x.m [10,1]++figL x.d [10,1]++figL x.h [10,1]++figL x.mi [10,1]++figL x.s [10,1]++[90]
def putF (x:D6):List Int:=[x.m,x.d,x.h,x.mi,x.s]
def putL6 (x:D6) (i:Nat):List UInt8:=figL x.y [1000,100,10,1]++((putF x).take i).flatMap fun n=>figL n [10,1]
end
end Am
end Go.Proofs.YteolfpolmioalaaGreatDoor
namespace Go.Proofs.YteolfpolmioalaaGreatDoor
set_option linter.unusedVariables false

def isTrueM (l:List UInt8):Bool×Nat :=
 if l.length=0 then (false,2) else if 1<l.length∨((l.getD 0 0).toNat≠255∧(l.getD 0 0).toNat≠0) then (false,4) else (decide ((l.getD 0 0).toNat=255),0)
theorem idle_get (l:List UInt8) (h:1<l.length):idle l=(((l.getD 0 0).toNat == 0 && decide ((l.getD 1 0).toNat<128)) || ((l.getD 0 0).toNat == 255 && decide (128≤(l.getD 1 0).toNat))):=by
 match l,h with
 | x::y::r,_=>rfl
theorem idle_short (l:List UInt8) (h:l.length≤1):idle l=false:=by
 match l,h with
 | [],_=>rfl
 | [x],_=>rfl
 | x::y::r,h=>simp at h
theorem valS_take_one (l:List UInt8) (h:0<l.length):valS (l.take 1)=sgn (l.getD 0 0):=by
 match l,h with
 | x::r,_=>simp [valS]
theorem valS_take_succ (l:List UInt8) (k:Nat) (h:k+1<l.length):valS (l.take (k+1+1))=valS (l.take (k+1)) * 256+(l.getD (k+1) 0).toNat:=by
 rw [List.take_succ_eq_append_getElem h,valS_snoc _ (by
  intro e
  have:=congrArg List.length e
  simp at this
  rw [this] at h
  simp at h)]
 simp [List.getD,h]
def rangeM (l:List UInt8) (least most:Int):Int×Nat :=
 if (getM l).2≠0 then (0,(getM l).2) else if (getM l).1<least∨most<(getM l).1 then (0,1) else ((getM l).1,0)
theorem u64_step (V c:Int):IntKind.u64.wrap (IntKind.u64.wrap (V % 18446744073709551616 * 256)+c)=(V * 256+c) % 18446744073709551616:=by
 rw [IntKind.wrap_u64,IntKind.wrap_u64]
 omega
def vk (l:List UInt8) (k:Nat):Int:=if k=0 then (if (l.getD 0 0).toNat<128 then 0 else -1) else valS (l.take k)
theorem vk_succ (l:List UInt8) (k:Nat) (h:k<l.length):vk l (k+1)=vk l k * 256+(l.getD k 0).toNat:=by
 cases k with
 | zero =>
  simp only [vk,if_true,Nat.zero_add,Nat.one_ne_zero,if_false]
  rw [valS_take_one l (by omega)]
  unfold sgn
  split <;> omega
 | succ k =>
  simp only [vk,Nat.add_one_ne_zero,if_false]
  exact valS_take_succ l k h
theorem valS_bd8 (l:List UInt8) (h:l.length≤8):-9223372036854775808≤valS l∧valS l<9223372036854775808:=by
 by_cases h7:l.length≤7
 ·have:=valS_small l h7
  omega
 ·have e:l=l.take 7++[l.getD 7 0]:=by
   have:l.take (7+1)=l.take 7++[l[7]]:=List.take_succ_eq_append_getElem (by omega)
   rw [List.take_of_length_le (by omega)] at this
   have e7:l.getD 7 0=l[7]:=by simp [List.getD,show 7<l.length by omega]
   rw [e7]
   exact this
  have h2:=valS_small (l.take 7) (by simp;omega)
  have hc:=(l.getD 7 0).toNat_lt
  rw [e,valS_snoc _ (by intro e;have:=congrArg List.length e;simp at this;rw [this] at h7;simp at h7)]
  omega
end Go.Proofs.YteolfpolmioalaaGreatDoor
namespace Go.Proofs.YteolfpolmioalaaGreatDoor
open Go.RowKit

end Go.Proofs.YteolfpolmioalaaGreatDoor
