/- What the law leans on, part 5: AmR, SlB, P03, Err, Num, NumC, W03, W03b, L03, SlC, NumB, MarkC, L03p, P07s, P07d, P07, P07b, P04, Dec -/
import Derived.Test.YthlpfjnkieaeeaaGreatDoorM4ObjectsOthers
import Derived.Stop.Asserts
import Derived.RowKitTokens
import Derived.Sort.Statements
import Derived.Lib.DecodeN
import Derived.Lib.ValidU
import Derived.Test.YthlpfjnkieaeeaaGreatDoorChecked
import Derived.Laws.BitsAllLaws
import Derived.IntWalk

set_option maxRecDepth 100000
namespace Go.Proofs.YthlpfjnkieaeeaaGreatDoor
set_option linter.unusedVariables false
namespace Am
open Go.RowKit
section
def JV (_:Nat):Prop:=True
theorem jv (k:Nat) {n:Nat} (_:JV n) (_:Nat.beq (Nat.mod n 10) k=true:=by exact rfl):JV (Nat.div n 10):=trivial
structure JB (B:Prop):Prop where v:B
theorem jU (n:Nat) {A B:Prop} (b:B) (h:JV n→JB B→A:=by
 intro c b
 repeat (first|(replace c:=jv 1 c;refine jq jrm ?_)|(replace c:=jv 2 c;refine jq jrc ?_)|(replace c:=jv 3 c;refine jq jrl ?_)|(replace c:=jv 4 c;refine jqs ?_)|(replace c:=jv 5 c;refine jN ?_)|(replace c:=jv 6 c;refine jcr ?_)|(replace c:=jv 7 c;refine jcs ?_)|(replace c:=jv 8 c;refine jtn ?_)|(replace c:=jv 9 c;refine jq jra ?_)|(replace c:=jv 0 c;first|(replace c:=jv 1 c;refine jS ?_)|(replace c:=jv 2 c;refine jB ?_)|(replace c:=jv 3 c;refine jq jrn ?_)|(replace c:=jv 4 c;refine jq jrnc ?_)|(replace c:=jv 5 c;refine jqo jrdo ?_)|(replace c:=jv 6 c;refine jq jrdr ?_)|(replace c:=jv 7 c;refine jyq jrm ?_)|(replace c:=jv 8 c;refine jyd ?_)|(replace c:=jv 9 c;refine jq (jrfa 0 1 false) ?_)|(replace c:=jv 0 c;first|(replace c:=jv 1 c;refine jq (jrfa 1 1 false) ?_)|(replace c:=jv 2 c;refine jcg ?_)|(replace c:=jv 3 c;refine jcF ?_)|(replace c:=jv 4 c;refine jbn ?_)|(replace c:=jv 5 c;refine jq jrpF ?_)|(replace c:=jv 6 c;refine jys ?_)|(replace c:=jv 7 c;refine jq jri ?_)|(replace c:=jv 8 c;refine jyq jrc ?_)|(replace c:=jv 9 c;refine jq jrx ?_)|(replace c:=jv 0 c;first|(replace c:=jv 1 c;refine jq (jrfa 2 1 false) ?_)|(replace c:=jv 2 c;refine jte ?_)|(replace c:=jv 3 c;refine jtr ?_)|(replace c:=jv 4 c;refine jbx ?_)|(replace c:=jv 5 c;refine jbr ?_)|(replace c:=jv 6 c;refine jX ?_)|(replace c:=jv 7 c;refine jR ?_)|(replace c:=jv 8 c;refine jq jrpT ?_)|(replace c:=jv 9 c;refine jcT ?_)|(replace c:=jv 0 c;first|(replace c:=jv 1 c;refine jyo jrdo ?_)|(replace c:=jv 2 c;refine jyq jrl ?_)|(replace c:=jv 3 c;refine jyq jra ?_)|(replace c:=jv 4 c;refine jq jrls ?_)|(replace c:=jv 5 c;refine jyq jrnc ?_)|(replace c:=jv 6 c;refine jq jrcs ?_)|(replace c:=jv 7 c;refine jyq jrdr ?_)|(replace c:=jv 8 c;refine jbx2 ?_)|(replace c:=jv 9 c;refine jyq jri ?_)|(replace c:=jv 0 c;first|(replace c:=jv 1 c;refine jyq jrn ?_)|(replace c:=jv 2 c;refine jq jrcb ?_)|(replace c:=jv 3 c;refine jyq jrpF ?_)|(replace c:=jv 4 c;refine jzq jrm ?_)|(replace c:=jv 5 c;refine jq jre ?_)|(replace c:=jv 6 c;refine jq jrq ?_)|(replace c:=jv 7 c;refine jzd ?_)|(replace c:=jv 8 c;refine jq (jrv .i64 .u8) ?_)|(replace c:=jv 9 c;refine jyq (jrfa 0 1 false) ?_)|(replace c:=jv 0 c;first|(replace c:=jv 1 c;refine jq jrr ?_)|(replace c:=jv 2 c;refine jq (jri (i:=0)) ?_)|(replace c:=jv 3 c;refine jyq jrpT ?_)|(replace c:=jv 4 c;refine jyq (jrde 3) ?_)|(replace c:=jv 5 c;refine jq (jrfa 3 1 false) ?_)|(replace c:=jv 6 c;refine jq (jrfa 5 1 false) ?_)|(replace c:=jv 7 c;refine jq (jrfa 4 1 false) ?_)|(replace c:=jv 8 c;refine jyq (jrfa 1 1 false) ?_)|(replace c:=jv 9 c;refine jzq jrnc ?_)|(replace c:=jv 0 c;first|(replace c:=jv 1 c;refine jzq (jrfa 0 1 false) ?_)|(replace c:=jv 2 c;refine jq (jrfa 6 1 false) ?_)|(replace c:=jv 3 c;refine jyq jrbs ?_)|(replace c:=jv 4 c;refine jzs ?_)|(replace c:=jv 5 c;refine jzo jrdo ?_)|(replace c:=jv 6 c;refine jzq (jrfa 1 1 false) ?_)|(replace c:=jv 7 c;refine jq (jrv8 .i64) ?_)|(replace c:=jv 8 c;refine jq jrix ?_)|(replace c:=jv 9 c;refine jq jrst ?_)))))))))
 exact b.v):A:=h trivial ⟨b⟩
end
section
variable {gs:List Nat} [Ok9 gs]

theorem clone8_ac {gs:List Nat} (l:List UInt8) (hl:l.length≤100000000000):ACp gs Tryz.prog 131 [bsC l] (bsC l):=by
 refine ac_of 8 Tryz.func131 rfl rfl rfl (fun al w0 F0 St0=>?_)
 refine jU 167516 ?_;refine seq_eqNil (wanted_none rfl) rfl rfl rfl Tryz.underlying22 rfl rfl (fun h357=>?_) ?_
 ·refine jU 51690005 ?_
  refine jR (jtr (jrt (hv:=CEnt.nilS' h357)))
 ·refine jU 68103005 ?_
  refine jqe (jebl 0 1 zr5 fun p1=>?_)
  refine jU 1 ?_
  refine jqm (m_appendB (l:=[]) rfl rfl rfl (Nat.zero_le _) (fun j hj=>absurd hj (Nat.not_lt_zero j)) (src_rs rfl) rfl (fun j hj=>by simp only [Nat.div_one];exact cZ) Tryz.underlying22 nu22 sz5 zr5 by5 rfl (by (simp;omega)) (fun j hj=>rfl) rfl rfl (fun p2=>?_))
  refine jU 51 ?_;refine jE (freeze 0 rfl) ?_;refine jE (thawB 2 ([]++l) rfl rfl (by rfl) rfl) ?_
  refine jR (jrt (hv:=CEnt.bs (List.nil_append l)))
theorem isNaN8_ac {gs:List Nat} (c:UInt8):ACp gs Tryz.prog 276 [.c (.int .u8 (c.toNat:Nat))] (.c (.bool false)):=by
 refine ac_of 6 Tryz.func276 rfl rfl rfl (fun al w0 F0 St0=>?_)
 refine jU 512116516 ?_
 refine jR (jrt (hv:=cB (by simp)))
def cmp8 (a b:UInt8):Int:=if a.toNat<b.toNat then -1 else if b.toNat<a.toNat then 1 else 0
theorem cmp8_ac {gs:List Nat} (a b:UInt8):ACp gs Tryz.prog 264 [.c (.int .u8 (a.toNat:Nat)),.c (.int .u8 (b.toNat:Nat))] (.c (.int .i64 (cmp8 a b))):=by
 refine ac_of 20 Tryz.func264 rfl rfl rfl (fun al w0 F0 St0=>?_)
 refine jU 16516 ?_
 refine jqe (jecP (isNaN8_ac a) ?_)
 refine jU 1651 ?_
 refine jqe (jecP (isNaN8_ac b) ?_)
 refine jU 516751 ?_;refine jcc (fun h43=>?_) fun h43=>?_
 ·refine jU 5167 ?_;refine jcc (fun h44=>?_) fun h44=>?_
  ·refine jU 516 ?_
   refine jR (jtr (jtr (jrt (hv:=?_))))
   (exfalso;simp at *;done)
  refine jU 516810 ?_
  refine jR (jtr (jrt (hv:=?_)))
  (exfalso;simp at *;done)
 refine jU 5167810 ?_;refine jcc (fun h49=>?_) fun h49=>?_
 ·refine jU 516 ?_
  refine jR (jtr (jrt (hv:=?_)))
  (exfalso;simp at *;done)
 refine jU 521167810 ?_;refine jcc (fun h52=>?_) fun h52=>?_
 ·refine jU 516 ?_
  refine jR (jtr (jrt (hv:=?_)))
  (refine cI ?_;unfold cmp8;split <;> omega)
 refine jU 521167810 ?_;refine jcc (fun h55=>?_) fun h55=>?_
 ·refine jU 516 ?_
  refine jR (jtr (jrt (hv:=?_)))
  (refine cI ?_;unfold cmp8;split <;> omega)
 refine jU 516810 ?_
 refine jR (jrt (hv:=?_))
 (refine cI ?_;unfold cmp8;split <;> omega)
def cmpL:List UInt8→List UInt8→Int
 | [],[]=>0
 | [],_::_=>-1
 | _::_,[]=>1
 | a::l,b::r=>if cmp8 a b≠0 then cmp8 a b else cmpL l r
theorem cmpL_lt:∀ l r:List UInt8,decide (cmpL l r<0)=Op.bytesLess l r
 | [],[]=>by simp [cmpL,Op.bytesLess]
 | [],_::_=>by simp [cmpL,Op.bytesLess]
 | _::_,[]=>by simp [cmpL,Op.bytesLess]
 | a::l,b::r=>by
  have ih:=cmpL_lt l r
  rw [cmpL,Op.bytesLess,← ih]
  have h1:(a<b)↔a.toNat<b.toNat:=UInt8.lt_iff_toNat_lt
  have h2:(a=b)↔a.toNat=b.toNat:=UInt8.toNat_inj.symm
  rw [Bool.eq_iff_iff]
  simp only [decide_eq_true_eq,Bool.or_eq_true,Bool.and_eq_true,beq_iff_eq,h1,h2]
  by_cases h3:a.toNat<b.toNat
  ·simp [cmp8,h3]
  ·by_cases h4:b.toNat<a.toNat
   ·simp [cmp8,h3,h4]
    omega
   ·have h5:a.toNat=b.toNat:=by omega
    simp [cmp8,h5]
theorem cmpL_drop {l r:List UInt8} {i:Nat} (h1:i<l.length) (h2:i<r.length):cmpL (l.drop i) (r.drop i)=if cmp8 (l.getD i 0) (r.getD i 0)≠0 then cmp8 (l.getD i 0) (r.getD i 0) else cmpL (l.drop (i+1)) (r.drop (i+1)):=by
 rw [List.drop_eq_getElem_cons h1,List.drop_eq_getElem_cons h2,cmpL]
 simp [List.getD,h1,h2]
theorem compare8_ac {gs:List Nat} (l r:List UInt8):ACp gs Tryz.prog 238 [bsC l,bsC r] (.c (.int .i64 (cmpL l r))):=by
 refine ac_len 0 rfl fun hlen=>?_
 refine ac_of 36 Tryz.func238 rfl rfl rfl (fun al w0 F0 St0=>?_)
 refine jU 20513167516 ?_;refine l_loop (α:=Nat) [4,5,6,7,8,11,12,13,14,15,16,17,18,19,20,21,22,23,24,25,26,27,28,29,30] (fun i=>[(11,.c (.int .i64 (i:Nat)))]) (fun _=>[]) (fun i=>i≤l.length∧i≤r.length∧cmpL (l.drop i) (r.drop i)=cmpL l r) (fun i=>l.length-i) (0) ?_ (fun _=>rfl) ?_ ?_ ?_
 ·exact ⟨by omega,by omega,rfl⟩
 ·(repeat (first|exact EntE.nil|refine EntE.cons cZ ?_))
 ·(repeat (exact HEnt.nil))
 ·rintro i ⟨hi,hj,he⟩
  refine jU 7526 ?_;refine jcc (fun h58=>?_) fun h58=>?_
  rotate_left
  ·refine jU 5231316784000200020006000 ?_;refine jcc (fun h67=>?_) fun h67=>?_
   ·refine jU 516 ?_
    refine jR (jtr (jrt (hv:=?_)))
    refine cI ?_
    have h1:l.drop i=[]:=List.drop_eq_nil_of_le (by omega)
    rw [← he,h1]
    (rw [List.drop_eq_getElem_cons (show i<r.length by omega)];rfl)
   refine jU 516810 ?_
   refine jR (jrt (hv:=?_))
   refine cI ?_
   have h1:l.drop i=[]:=List.drop_eq_nil_of_le (by omega)
   rw [← he,h1]
   (rw [List.drop_eq_nil_of_le (show r.length≤i by omega)];rfl)
  refine jU 52311675116070016207810 ?_;refine jcc (fun h59=>?_) fun h59=>?_
  ·refine jU 516 ?_
   refine jR (jtr (jbr (jtr (jtr (jbr (jtr (jrt (hv:=?_))))))))
   refine cI ?_
   have:r.drop i=[]:=List.drop_eq_nil_of_le (by omega)
   rw [← he,this,List.drop_eq_getElem_cons (by omega)]
   rfl
  refine jU 1165160700116810 ?_
  refine jqe (jecP (cmp8_ac (l.getD i 0) (r.getD i 0)) ?_)
  refine jU 521651 ?_;refine jcc (fun h63=>?_) fun h63=>?_
  ·refine jU 5116 ?_
   refine jR (jbr (jtr (jtr (jbr (jtr (jrt (hv:=?_)))))))
   refine cI ?_
   rw [← he,cmpL_drop (l:=l) (r:=r) (i:=i) (by omega) (by omega),if_pos h63]
  refine jU 8519200840010 ?_;refine jlend (i+1) ?_ ?_
  ·exact ⟨by omega,by omega,by rw [← he,cmpL_drop (l:=l) (r:=r) (i:=i) (by omega) (by omega),if_neg h63]⟩
  ·omega

def idxI (l:List Int) (x:Int):Int:=if x ∈ l then (l.idxOf x:Nat) else -1
theorem index64_ac {gs:List Nat} (l:List Int) (x:Int):ACp gs Tryz.prog 275 [isC l,.c (.int .i64 x)] (.c (.int .i64 (idxI l x))):=by
 refine ac_len 0 rfl fun hlen=>?_
 refine ac_of 19 Tryz.func275 rfl rfl rfl (fun al w0 F0 St0=>?_)
 refine jU 20513167516 ?_;refine l_loop (α:=Nat) [4,5,8,9,10,11,12,13,14,15,16,17,18] (fun i=>[(8,.c (.int .i64 (i:Nat)))]) (fun _=>[]) (fun i=>i≤l.length∧x ∉ l.take i) (fun i=>l.length-i) (0) ?_ (fun _=>rfl) ?_ ?_ ?_
 ·exact ⟨by omega,by simp⟩
 ·(repeat (first|exact EntE.nil|refine EntE.cons cZ ?_))
 ·(repeat (exact HEnt.nil))
 ·rintro i ⟨hi,he⟩
  refine jU 7526 ?_;refine jcc (fun h97=>?_) fun h97=>?_
  rotate_left
  ·refine jU 51684000200020006000 ?_
   refine jR (jrt (hv:=?_))
   refine cI ?_
   have:l.take i=l:=List.take_of_length_le (by omega)
   rw [this] at he
   unfold idxI
   rw [if_neg he]
  refine jU 526070011165116207810 ?_;refine jcc (fun h98=>?_) fun h98=>?_
  ·refine jU 5116 ?_
   refine jR (jbr (jtr (jtr (jbr (jtr (jrt (hv:=?_)))))))
   refine cI ?_
   have hlt:i<l.length:=by omega
   have e:l.getD i 0=l[i]:=by simp [List.getD,hlt]
   have hm:x ∈ l:=by rw [h98,e];exact List.getElem_mem hlt
   have hx:l.idxOf x=i:=by
    have e2:l=l.take i++l[i]::l.drop (i+1):=by rw [← List.drop_eq_getElem_cons hlt,List.take_append_drop]
    rw [e2,List.idxOf_append,if_neg he,h98,e]
    rw [← List.drop_eq_getElem_cons hlt,List.drop_eq_getElem_cons hlt,List.idxOf_cons_self,List.length_take]
    omega
   unfold idxI
   rw [if_pos hm,hx]
  refine jU 8519200840010 ?_;refine jlend (i+1) ?_ ?_
  ·exact ⟨by omega,fun hm=>by
    rw [List.take_succ_eq_append_getElem (by omega)] at hm
    rcases List.mem_append.1 hm with h|h
    ·exact he h
    ·have e:l.getD i 0=l[i]:=by simp [List.getD,show i<l.length by omega]
     simp at h
     rw [e] at h98
     exact h98 h⟩
  ·omega
theorem contains64_ac {gs:List Nat} (l:List Int) (x:Int):ACp gs Tryz.prog 262 [isC l,.c (.int .i64 x)] (.c (.bool (decide (x ∈ l)))):=by
 refine ac_of 9 Tryz.func262 rfl rfl rfl (fun al w0 F0 St0=>?_)
 refine jU 116516 ?_
 refine jqe (jecP (index64_ac l x) ?_)
 refine jU 512 ?_
 refine jR (jrt (hv:=?_))
 refine cB ?_
 unfold idxI
 split <;> simp_all <;> omega

def revJ (l:List UInt8) (i:Nat):List UInt8:=(List.range l.length).map fun j=>if j<i∨l.length≤j+i then l.reverse.getD j 0 else l.getD j 0
theorem revJ_get {l:List UInt8} {i j:Nat} (h:j<l.length):(revJ l i).getD j 0=if j<i∨l.length≤j+i then l.reverse.getD j 0 else l.getD j 0:=by simp [revJ,List.getD,h]
theorem rev_get {l:List UInt8} {j:Nat} (h:j<l.length):l.reverse.getD j 0=l.getD (l.length-1-j) 0:=by
 simp [List.getD,List.getElem?_reverse h,show l.length-1-j<l.length by omega]
theorem revJ_all {l:List UInt8} {i:Nat} (h:l.length≤2 * i+1):revJ l i=l.reverse:=by
 apply List.ext_getElem
 ·simp [revJ]
 ·intro j h1 h2
  have hj:j<l.length:=by simpa using h2
  have e:=revJ_get (i:=i) hj
  simp only [List.getD_eq_getElem?_getD,List.getElem?_eq_getElem h1,List.getElem?_eq_getElem h2,List.getElem?_eq_getElem hj,Option.getD_some] at e
  rw [e]
  split
  ·rfl
  ·have:j=l.length-1-j:=by omega
   rw [List.getElem_reverse]
   congr 1
theorem revJ_zero (l:List UInt8):revJ l 0=l:=by
 apply List.ext_getElem
 ·simp [revJ]
 ·intro j h1 h2
  have e:=revJ_get (i:=0) h2
  simp only [List.getD_eq_getElem?_getD,List.getElem?_eq_getElem h1,List.getElem?_eq_getElem h2,Option.getD_some] at e
  rw [e,if_neg (by omega)]
def OwnL (g:Option Nat) (l:List UInt8):CV→List (Option Nat×Res)→Prop:=fun r H'=>r=.c (.tuple #[])∧H'=[(g,.blk l.length (byF l))]
theorem reverse8_ac {gs:List Nat} (g:Option Nat) (l:List UInt8) (hl:l.length≤100000000000):AC gs Tryz.prog 218 [(g,.blk l.length (byF l))] [.os 0 g 0 l.length 1] (OwnL g l.reverse):=by
 refine ac_of 28 Tryz.func218 rfl rfl rfl (fun al w0 F0 St0=>?_)
 refine jU 205119316 ?_;refine l_loop (α:=Nat) [2,3,7,8,9,10,11,12,13,14,15,16,17,18,19,20,21,22,23,24,25,26,27] (fun i=>[(2,.c (.int .i64 (i:Nat))),(3,.c (.int .i64 ((l.length:Int)-1-i)))]) (fun i=>[(g,.blk l.length (byF (revJ l i)))]) (fun i=>2 * i≤l.length+1) (fun i=>l.length-i) (0) ?_ (fun _=>rfl) ?_ ?_ ?_
 ·show 2 * 0≤l.length+1;omega
 ·exact .cons cZ (.cons (cI (by omega)) .nil)
 ·exact .blk rfl (fun j hj=>by rw [revJ_zero];exact cZ) .nil
 ·rintro i (hi:2 * i≤l.length+1)
  refine jU 521167 ?_;refine jcc (fun h484=>?_) fun h484=>?_
  rotate_left
  ·refine jU 4000200020006000 ?_
   exact end_own (.inr rfl) _ _ [0] (by decide) rfl (res_0 rfl) ⟨rfl,by show [(g,Res.blk l.length (byF (revJ l i)))]=_;rw [revJ_all (by omega),List.length_reverse]⟩
  refine jU 207810 ?_;refine jcdZ (.rd 0 (.rd 1 (.rd 2 (.rd 3 (.rd 4 (.rd 5 (.rd 6 (.rd 7 (.rd 8 (.rd 9 (.rd 10 (.rd 11 (.rd 12 (.one 13 (.rd 14 (.one 15 .done)))))))))))))))) ?_;refine jU 400000400000400000400000400000400000 ?_;refine jzq (jri (i:=(l.length-1-i)) (hz:=by omega)) ?_;refine jU 40000040000050000000 ?_;refine jzq (jri (i:=i) (hz:=by omega)) ?_;refine jzo jrdo ?_;refine jzq (jri (i:=i) (hz:=by omega)) ?_
  refine jzm (jmst 1 ?_)
  refine jzq (jri (i:=(l.length-1-i)) (hz:=by omega)) ?_
  refine jzm (jmst 1 ?_)
  refine jU 851191912008400700000 ?_
  refine jlend (i+1) ?_ ?_ (h7:=?_)
  ·show 2 * (i+1)≤l.length+1;omega
  ·omega
  ·exact .blk rfl (fun j hj=>by
    refine (CEnt.of_eq (updF_one _ _ _ j)).trans ?_
    have hj:j<l.length:=hj
    have e3:=revJ_get (i:=i+1) hj
    have ri:=@rev_get l i (by omega)
    have rj:=@rev_get l (l.length-1-i) (by omega)
    have ei:=@revJ_get l i i (by omega)
    have ej:=@revJ_get l i (l.length-1-i) (by omega)
    rw [if_neg (by omega)] at ei ej
    rw [show l.length-1-(l.length-1-i)=i by omega] at rj
    show CEnt (if j=_ then _ else updF (byF (revJ l i)) i [_] j) _
    rw [updF_one]
    unfold byF
    by_cases h1:j=l.length-1-i
    ·rw [if_pos h1]
     subst h1
     exact cI (by rw [ei,e3,if_pos (.inr (by omega)),rj])
    ·rw [if_neg h1]
     by_cases h2:j=i
     ·rw [if_pos h2]
      subst h2
      exact cI (by rw [ej,e3,if_pos (.inl (by omega)),ri])
     ·rw [if_neg h2]
      have e0:=revJ_get (i:=i) hj
      refine cI ?_
      rw [e0,e3]
      by_cases h3:j<i∨l.length≤j+i
      ·rw [if_pos h3,if_pos (by omega)]
      ·rw [if_neg h3,if_neg (by omega)]) .nil
end
section
def madeM (t:Int):Bool:=decide (t=48∨t=49∨(160≤t∧t<176))
def plainT:List Int:=[1,2,3,4,5,6,10,12,24]
def knownM (t:Int):Bool:=madeM t || decide ((1≤t∧t≤6)∨t=10∨t=12∨t=24)
theorem plain_known (t:Int):decide (t ∈ plainT)=decide ((1≤t∧t≤6)∨t=10∨t=12∨t=24):=by
 refine decide_eq_decide.2 ?_
 simp only [plainT,List.mem_cons,List.not_mem_nil,or_false]
 omega
def b8 (n:Nat):UInt8:=UInt8.ofNat n
theorem b8_toNat {n:Nat} (h:n<256):(b8 n).toNat=n:=by
 unfold b8
 rw [UInt8.toNat_ofNat']
 omega
theorem b8_mod (n:Nat):(b8 n).toNat=n % 256:=by
 unfold b8
 rw [UInt8.toNat_ofNat']
def lenL (n:Nat):List UInt8 :=
 if n<128 then [b8 n] else if n<256 then [129,b8 n] else if n<65536 then [130,b8 (n / 256),b8 n]
 else if n<16777216 then [131,b8 (n / 65536),b8 (n / 256),b8 n] else [132,b8 (n / 16777216),b8 (n / 65536),b8 (n / 256),b8 n]
theorem lenL_bd (n:Nat):1≤(lenL n).length∧(lenL n).length≤5:=by
 unfold lenL
 split
 ·simp
 ·split
  ·simp
  ·split
   ·simp
   ·split <;> simp
def putL (tag:Int) (body:List UInt8):List UInt8:=UInt8.ofNat tag.toNat::(lenL body.length++body)
def beN (l:List UInt8):Nat:=l.foldl (fun n c=>n * 256+c.toNat) 0
theorem beN_snoc (l:List UInt8) (c:UInt8):beN (l++[c])=beN l * 256+c.toNat:=by simp [beN]
theorem beN_take {l:List UInt8} {i:Nat} (h:i<l.length):beN (l.take (i+1))=beN (l.take i) * 256+(l.getD i 0).toNat:=by
 rw [List.take_succ_eq_append_getElem h,beN_snoc]
 simp [List.getD,h]
theorem beN_lt (l:List UInt8):beN l<256 ^ l.length:=by
 have key:∀ (r:List UInt8) (n k:Nat),n<256 ^ k→r.foldl (fun n c=>n * 256+c.toNat) n<256 ^ (k+r.length):=by
  intro r
  induction r with
  | nil=>intro n k h;simpa using h
  | cons c r ih =>
   intro n k h
   have:=ih (n * 256+c.toNat) (k+1) (by have:=c.toNat_lt;rw [Nat.pow_succ];omega)
   simpa [Nat.add_assoc,Nat.add_comm 1] using this
 have:=key l 0 0 (by decide)
 simpa [beN] using this

structure Ms where
 e:Nat
 n:Nat
 rest:List UInt8
def measM (b:List UInt8):Ms :=
 if b.length=0 then ⟨2,0,[]⟩ else
 let c:=(b.getD 0 0).toNat
 let r:=b.drop 1
 if c≤127 then ⟨0,c,r⟩ else
 if c=128∨132<c then ⟨4,0,[]⟩ else
 if r.length<c-128 then ⟨2,0,[]⟩ else
 if beN (r.take (c-128))≤127∨(r.getD 0 0).toNat=0 then ⟨4,0,[]⟩ else ⟨0,beN (r.take (c-128)),r.drop (c-128)⟩
theorem measM_ne {b r:List UInt8} {c:Nat} (h:b.length≠0) (hc:c=(b.getD 0 0).toNat) (hr:r=b.drop 1):measM b=if c≤127 then ⟨0,c,r⟩ else
 if c=128∨132<c then ⟨4,0,[]⟩ else
 if r.length<c-128 then ⟨2,0,[]⟩ else
 if beN (r.take (c-128))≤127∨(r.getD 0 0).toNat=0 then ⟨4,0,[]⟩ else ⟨0,beN (r.take (c-128)),r.drop (c-128)⟩:=by
 subst hc hr
 unfold measM
 rw [if_neg h]
theorem measM_rest (b:List UInt8):(measM b).rest.length≤b.length-1∧((measM b).e≠0→(measM b).rest=[]∧(measM b).n=0)∧(measM b).e≤4:=by
 unfold measM
 split
 ·simp
 ·dsimp only
  split
  ·simp
  ·split
   ·simp
   ·split
    ·simp
    ·split
     ·simp
     ·refine ⟨?_,by simp,by simp⟩
      simp
      omega

structure Nx where
 e:Nat
 tag:Nat
 body:List UInt8
 rest:List UInt8
def nextM (b:List UInt8):Nx :=
 if b.length=0 then ⟨2,0,[],[]⟩ else
 if knownM ((b.getD 0 0).toNat:Nat)=false then ⟨5,0,[],[]⟩ else
 let m:=measM (b.drop 1)
 if m.e≠0 then ⟨m.e,0,[],[]⟩ else
 if 65530<m.n then ⟨3,0,[],[]⟩ else
 if m.rest.length<m.n then ⟨2,0,[],[]⟩ else ⟨0,(b.getD 0 0).toNat,m.rest.take m.n,m.rest.drop m.n⟩
theorem nextM_ne {b:List UInt8} {t:Nat} {m:Ms} (h:b.length≠0) (ht:t=(b.getD 0 0).toNat) (hk:knownM (t:Nat)=true) (hm:m=measM (b.drop 1)):nextM b=if m.e≠0 then ⟨m.e,0,[],[]⟩ else
 if 65530<m.n then ⟨3,0,[],[]⟩ else
 if m.rest.length<m.n then ⟨2,0,[],[]⟩ else ⟨0,t,m.rest.take m.n,m.rest.drop m.n⟩:=by
 subst ht hm
 unfold nextM
 rw [if_neg h,if_neg (by rw [hk];exact Bool.noConfusion)]
theorem nextM_bd (b:List UInt8):(nextM b).e≤5∧(nextM b).tag≤255∧(nextM b).body.length≤65530∧(nextM b).body.length≤b.length∧(nextM b).rest.length≤b.length∧((nextM b).e=0→(nextM b).rest.length<b.length):=by
 unfold nextM
 split
 ·simp
 ·split
  ·simp
  ·dsimp only
   have hm:=measM_rest (b.drop 1)
   split
   ·refine ⟨by dsimp only;omega,by simp,by simp,by simp,by simp,fun h=>by dsimp only at h;omega⟩
   ·split
    ·simp
    ·split
     ·simp
     ·have h8:=(b.getD 0 0).toNat_lt
      have hm1:=hm.1
      rw [List.length_drop] at hm1
      refine ⟨by simp,by dsimp only;omega,by rw [List.length_take];omega,by rw [List.length_take];omega,by rw [List.length_drop];omega,fun _=>by rw [List.length_drop];omega⟩

def loopW (rec:Nat→List UInt8→Nat×Nat) (set:Bool) (lv:Nat):Nat→List UInt8→List UInt8→Nat→Nat×Nat
 | 0,_,_,dp=>(dp,0)
 | fuel+1,b,last,dp =>
  if b.length=0 then (dp,0) else
  if (nextM b).e≠0 then (0,(nextM b).e) else
  if lv≤1 then (0,6) else
  if (rec (nextM b).tag (nextM b).body).2≠0 then (0,(rec (nextM b).tag (nextM b).body).2) else
  if set=true∧Op.bytesLess (b.take (b.length-(nextM b).rest.length)) last=true then (0,7) else
  loopW rec set lv fuel (nextM b).rest (b.take (b.length-(nextM b).rest.length)) (max dp ((rec (nextM b).tag (nextM b).body).1+1))
def wholeM:Nat→Nat→List UInt8→Nat×Nat
 | 0,_,_=>(1,0)
 | lv+1,tag,body=>if madeM tag=false then (1,0) else loopW (wholeM lv) (decide (tag=49)) (lv+1) body.length body [] 1
theorem loopW_bd (rec:Nat→List UInt8→Nat×Nat) (set:Bool) (lv B:Nat) (hr:∀ t b,(rec t b).1≤B∧(rec t b).2≤7):∀ (fuel:Nat) (b last:List UInt8) (dp:Nat),dp≤B+1→(loopW rec set lv fuel b last dp).1≤B+1∧(loopW rec set lv fuel b last dp).2≤7
 | 0,_,_,dp,h=>⟨h,by simp [loopW]⟩
 | fuel+1,b,last,dp,h=>by
  have h1:=nextM_bd b
  have h2:=hr (nextM b).tag (nextM b).body
  unfold loopW
  split
  ·exact ⟨h,by simp⟩
  ·split
   ·exact ⟨by simp,by simp;omega⟩
   ·split
    ·exact ⟨by simp,by simp⟩
    ·split
     ·exact ⟨by simp,by simp;omega⟩
     ·split
      ·exact ⟨by simp,by simp⟩
      ·exact loopW_bd rec set lv B hr fuel _ _ _ (by omega)
theorem wholeM_bd:∀ (lv tag:Nat) (body:List UInt8),(wholeM lv tag body).1≤lv+1∧(wholeM lv tag body).2≤7
 | 0,_,_=>by simp [wholeM]
 | lv+1,tag,body=>by
  unfold wholeM
  split
  ·exact ⟨by simp,by simp⟩
  ·exact loopW_bd _ _ _ _ (fun t b=>wholeM_bd lv t b) _ _ _ _ (by omega)
def depthM (b:List UInt8):Nat×Nat :=
 if 65536<b.length then (0,3) else
 if (nextM b).e≠0 then (0,(nextM b).e) else
 if 0<(nextM b).rest.length then (0,4) else wholeM 16 (nextM b).tag (nextM b).body
theorem meas_put {n:Nat} (r:List UInt8) (h:n<4294967296):measM (lenL n++r)=⟨0,n,r⟩:=by
 unfold lenL
 split
 ·rename_i h1
  simp [measM,b8_toNat (show n<256 by omega)]
  omega
 ·split
  ·rename_i h1 h2
   simp [measM,b8_toNat h2,beN]
   omega
  ·split
   ·rename_i h1 h2 h3
    simp [measM,b8_mod,beN]
    rw [if_neg (by omega),if_neg (by omega)];congr 1;omega
   ·split
    ·rename_i h1 h2 h3 h4
     simp [measM,b8_mod,beN]
     rw [if_neg (by omega),if_neg (by omega)];congr 1;omega
    ·rename_i h1 h2 h3 h4
     simp [measM,b8_mod,beN]
     rw [if_neg (by omega),if_neg (by omega)];congr 1;omega
theorem next_put {tag:Int} {body r:List UInt8} (hk:knownM tag=true) (hb:body.length≤65530):nextM (putL tag body++r)=⟨0,tag.toNat,body,r⟩:=by
 have ht:0≤tag∧tag<256:=by
  unfold knownM madeM at hk
  simp at hk
  omega
 have e0:(UInt8.ofNat tag.toNat).toNat=tag.toNat:=b8_toNat (n:=tag.toNat) (by omega)
 have hm:=meas_put (n:=body.length) (body++r) (by omega)
 have e1:((tag.toNat:Nat):Int)=tag:=by omega
 unfold nextM putL
 simp only [List.cons_append,List.length_cons,List.getD_cons_zero,e0,e1,hk,List.drop_succ_cons,List.drop_zero,List.append_assoc,hm]
 rw [if_neg (by omega),if_neg (by simp),if_neg (by simp),if_neg (by omega),if_neg (by simp)]
 simp
end
end Am
end Go.Proofs.YthlpfjnkieaeeaaGreatDoor
namespace Go.Proofs.YthlpfjnkieaeeaaGreatDoor
set_option linter.unusedVariables false
open Go.RowKit Go.Extern.Stop Go.Stop Go.Extern

theorem isTypeOf (v:Value) (w:World):(callFunc 135 #[.iface 356 v]).run Tryz.prog w=.ok (.value (.iface 249 (.agg #[.pointer (some ⟨31,356,none⟩)]))) w:=by kernel_rfl
theorem isComparable (w:World):(callFunc 336 #[.agg #[.pointer (some ⟨31,356,none⟩)]]).run Tryz.prog w=.ok (.value (.bool true)) w:=by kernel_rfl
theorem isMethodComparable (v : Value) (w : World) : (Go.method 488 249 v "Comparable").run Tryz.prog w = .ok (336, v) w := by kernel_rfl
theorem isComp:(Tryz.prog.info? 356).map (·.comparable)=some true:=by kernel_rfl
theorem isSize:(Tryz.prog.info? 378).map (·.size)=some 1:=by kernel_rfl
theorem noIsE (v:Value) (xT:TypeId) (w:World):(Instr.typeAssert (.iface 356 v) xT 251 true).run Tryz.prog w=.ok (.tuple #[.nilIface,.bool false]) w:=run_typeAssert_lacksB Tryz.underlying251 (by kernel_rfl) (by kernel_rfl) v xT w
theorem noUnwrapE (v:Value) (xT:TypeId) (w:World):(Instr.typeAssert (.iface 356 v) xT 254 true).run Tryz.prog w=.ok (.tuple #[.nilIface,.bool false]) w:=run_typeAssert_lacksB Tryz.underlying254 (by kernel_rfl) (by kernel_rfl) v xT w
theorem noUnwrapsE (v:Value) (xT:TypeId) (w:World):(Instr.typeAssert (.iface 356 v) xT 255 true).run Tryz.prog w=.ok (.tuple #[.nilIface,.bool false]) w:=run_typeAssert_lacksB Tryz.underlying255 (by kernel_rfl) (by kernel_rfl) v xT w

set_option maxHeartbeats 400000 in
theorem is_same (a:Addr) (w:World) :
  Calls Tryz.prog 61 #[.iface 356 (.pointer (some a)),.iface 356 (.pointer (some a))] w fun e w'=>e=.returned (.bool true)∧w=w':=by
 obtain ⟨i,hi,hcmp⟩:=Option.map_eq_some_iff.1 isComp
 obtain ⟨j,hj,hjs⟩:=Option.map_eq_some_iff.1 isSize
 have tT:=isTypeOf
 have cT:=isComparable
 have mR:=isMethodComparable
 have heq:=run_eql_iface_ptr_same (P:=Tryz.prog) w a Tryz.underlying25 Tryz.underlying356 hi hcmp hj
 go_enter Tryz.func61,Tryz.ntmps61
 go_wp2
 refine wp_loop_rounds 1 ?_
 rw [rounds_succ]
 go_wp2
 go_ret
 exact ⟨rfl,rfl⟩

set_option maxHeartbeats 400000 in
theorem is_other (a b:Addr) (ca cb:Array Value) (ta tb:TypeId) (w:World) (hne:a≠b) (ha:w.heap[a.block]?=some (.cells ca ta (0,0))) (hb:w.heap[b.block]?=some (.cells cb tb (0,0))) :
  Calls Tryz.prog 61 #[.iface 356 (.pointer (some a)),.iface 356 (.pointer (some b))] w fun e w'=>e=.returned (.bool false)∧w=w':=by
 obtain ⟨i,hi,hcmp⟩:=Option.map_eq_some_iff.1 isComp
 obtain ⟨j,hj,hjs⟩:=Option.map_eq_some_iff.1 isSize
 have tT:=isTypeOf
 have cT:=isComparable
 have mR:=isMethodComparable
 have nE:=noIsE
 have uE:=noUnwrapE
 have vE:=noUnwrapsE
 have heq:=run_eql_iface_ptr_other (P:=Tryz.prog) w Tryz.underlying25 Tryz.underlying356 hi hcmp hj (by rw [hjs];decide) hne ha hb
 go_enter Tryz.func61,Tryz.ntmps61
 go_wp2
 refine wp_loop_rounds 1 ?_
 rw [rounds_succ]
 go_wp2
 go_ret
 exact ⟨rfl,rfl⟩

theorem is_ev {w:World} {al:List Addr} (h:Sent w al) (m k:Nat) (hm0:m≠0) (hm:m≤28) (hk:k<28) :
  Calls Tryz.prog 61 #[ev al m,ev al (k+1)] w fun e w'=>e=.returned (.bool (decide (m=k+1)))∧w=w':=by
 have hl:al.length=28:=h.len.trans (by rw [OkG.eq];rfl)
 obtain ⟨a,ha⟩:∃ a,al[m-1]?=some a:=⟨al[m-1],List.getElem?_eq_getElem (by omega)⟩
 obtain ⟨b,hb⟩:∃ b,al[k]?=some b:=⟨al[k],List.getElem?_eq_getElem (by omega)⟩
 have e1:ev al m=.iface 356 (.pointer (some a)):=by simp [ev,hm0,ha]
 have e2:ev al (k+1)=.iface 356 (.pointer (some b)):=by simp [ev,hb]
 rw [e1,e2]
 by_cases hmk:m=k+1
 ·subst hmk
  simp only [Nat.add_sub_cancel] at ha
  obtain rfl:=Option.some.inj (ha.symm.trans hb)
  simp only [decide_true]
  exact is_same a w
 ·have hne:a≠b:=by
   intro e
   subst e
   have all:∀ i,i<28→((errG gs)[i]?).any (fun g=>(lst gs).contains g)=true:=by decide
   have get:∀ i,i<28→∃ g,(errG gs)[i]?=some g∧g ∈ lst gs:=fun i hi=>by
    have h1:=all i hi
    cases h2:(errG gs)[i]? with
    | none=>rw [h2] at h1;cases h1
    | some g=>rw [h2] at h1;exact ⟨g,rfl,List.contains_iff_mem.1 h1⟩
   obtain ⟨g1,k1,k2⟩:=get (m-1) (by omega)
   obtain ⟨g2,k3,k4⟩:=get k hk
   have:=h.nd (m-1) k g1 g2 k1 k2 k3 k4 (ha.trans hb.symm)
   omega
  simp only [hmk,decide_false]
  obtain ⟨ca,ta,h1⟩:=h.row a (List.mem_of_getElem? ha)
  obtain ⟨cb,tb,h2⟩:=h.row b (List.mem_of_getElem? hb)
  exact is_other a b ca cb ta tb w hne h1 h2
end Go.Proofs.YthlpfjnkieaeeaaGreatDoor
namespace Go.Proofs.YthlpfjnkieaeeaaGreatDoor
set_option linter.unusedVariables false
open Go.RowKit

def evs (al:List Addr):Array Value:=#[ev al 1,ev al 2,ev al 3,ev al 4,ev al 5,ev al 6,ev al 7,ev al 8,ev al 9,ev al 10,ev al 11,ev al 12,ev al 13,ev al 14,ev al 15,ev al 16,ev al 17,ev al 18,ev al 19,ev al 20,ev al 21,ev al 22,ev al 23,ev al 24,ev al 25,ev al 26,ev al 27,ev al 28]
theorem evs_get (al:List Addr) (k:Nat) (hk:k<28):(evs al)[k]?=some (ev al (k+1)):=by
 have:∀ k,k<28→(evs al)[k]?=some (ev al (k+1)):=by
  intro k hk
  match k,hk with
  | 0,_=>rfl
  | 1,_=>rfl
  | 2,_=>rfl
  | 3,_=>rfl
  | 4,_=>rfl
  | 5,_=>rfl
  | 6,_=>rfl
  | 7,_=>rfl
  | 8,_=>rfl
  | 9,_=>rfl
  | 10,_=>rfl
  | 11,_=>rfl
  | 12,_=>rfl
  | 13,_=>rfl
  | 14,_=>rfl
  | 15,_=>rfl
  | 16,_=>rfl
  | 17,_=>rfl
  | 18,_=>rfl
  | 19,_=>rfl
  | 20,_=>rfl
  | 21,_=>rfl
  | 22,_=>rfl
  | 23,_=>rfl
  | 24,_=>rfl
  | 25,_=>rfl
  | 26,_=>rfl
  | 27,_=>rfl
  | k+28,h=>omega
 exact this k hk

set_option maxRecDepth 100000 in
set_option maxHeartbeats 400000 in
theorem num_any {w:World} {al:List Addr} (h:Sent w al) (m:Nat) (hm:m≤28) :
  Calls Tryz.prog 12 #[ev al m] w fun e w'=>e=.returned (.int .i64 m)∧Below w.heap.size w w':=by
 by_cases h0:m=0
 ·subst h0
  have e0:decide ((0:Nat)=0)=true:=rfl
  go_enter Tryz.func12,Tryz.ntmps12
  go_wp2
  go_ret
  exact ⟨rfl,Below.refl _ _⟩
 ·have hd:decide (m=0)=false:=by simpa using h0
  have g0:w.cell? ⟨1,0,none⟩=some (ev al 1):=h.var 0 _ rfl (by decide)
  have g1:w.cell? ⟨2,0,none⟩=some (ev al 2):=h.var 1 _ rfl (by decide)
  have g2:w.cell? ⟨3,0,none⟩=some (ev al 3):=h.var 2 _ rfl (by decide)
  have g3:w.cell? ⟨0,0,none⟩=some (ev al 4):=h.var 3 _ rfl (by decide)
  have g4:w.cell? ⟨4,0,none⟩=some (ev al 5):=h.var 4 _ rfl (by decide)
  have g5:w.cell? ⟨5,0,none⟩=some (ev al 6):=h.var 5 _ rfl (by decide)
  have g6:w.cell? ⟨6,0,none⟩=some (ev al 7):=h.var 6 _ rfl (by decide)
  have g7:w.cell? ⟨7,0,none⟩=some (ev al 8):=h.var 7 _ rfl (by decide)
  have g8:w.cell? ⟨8,0,none⟩=some (ev al 9):=h.var 8 _ rfl (by decide)
  have g9:w.cell? ⟨9,0,none⟩=some (ev al 10):=h.var 9 _ rfl (by decide)
  have g10:w.cell? ⟨10,0,none⟩=some (ev al 11):=h.var 10 _ rfl (by decide)
  have g11:w.cell? ⟨11,0,none⟩=some (ev al 12):=h.var 11 _ rfl (by decide)
  have g12:w.cell? ⟨12,0,none⟩=some (ev al 13):=h.var 12 _ rfl (by decide)
  have g13:w.cell? ⟨13,0,none⟩=some (ev al 14):=h.var 13 _ rfl (by decide)
  have g14:w.cell? ⟨14,0,none⟩=some (ev al 15):=h.var 14 _ rfl (by decide)
  have g15:w.cell? ⟨15,0,none⟩=some (ev al 16):=h.var 15 _ rfl (by decide)
  have g16:w.cell? ⟨16,0,none⟩=some (ev al 17):=h.var 16 _ rfl (by decide)
  have g17:w.cell? ⟨17,0,none⟩=some (ev al 18):=h.var 17 _ rfl (by decide)
  have g18:w.cell? ⟨18,0,none⟩=some (ev al 19):=h.var 18 _ rfl (by decide)
  have g19:w.cell? ⟨19,0,none⟩=some (ev al 20):=h.var 19 _ rfl (by decide)
  have g20:w.cell? ⟨20,0,none⟩=some (ev al 21):=h.var 20 _ rfl (by decide)
  have g21:w.cell? ⟨21,0,none⟩=some (ev al 22):=h.var 21 _ rfl (by decide)
  have g22:w.cell? ⟨22,0,none⟩=some (ev al 23):=h.var 22 _ rfl (by decide)
  have g23:w.cell? ⟨23,0,none⟩=some (ev al 24):=h.var 23 _ rfl (by decide)
  have g24:w.cell? ⟨24,0,none⟩=some (ev al 25):=h.var 24 _ rfl (by decide)
  have g25:w.cell? ⟨25,0,none⟩=some (ev al 26):=h.var 25 _ rfl (by decide)
  have g26:w.cell? ⟨26,0,none⟩=some (ev al 27):=h.var 26 _ rfl (by decide)
  have g27:w.cell? ⟨27,0,none⟩=some (ev al 28):=h.var 27 _ rfl (by decide)
  have HB:Hid (Below w.heap.size w (w.alloc (.cells (evs al) 25))):=(Below.refl _ _).alloc (Nat.le_refl _) _
  have HS:Hid (Sent (w.alloc (.cells (evs al) 25)) al):=h.below HB.out
  have HC:Hid (∀ k,k<28→(w.alloc (.cells (evs al) 25)).cell? ⟨w.heap.size,k,none⟩=some (ev al (k+1))):=fun k hk=>by
   rw [World.cell?_alloc_mark]
   exact evs_get al k hk
  clear h
  go_enter Tryz.func12,Tryz.ntmps12
  go_wp2_with (refine wpList_value (o:=⟨some 36,_,_,_,_,_⟩) (.slice (some ⟨w.heap.size,0,none⟩) 28 28) (w.alloc (.cells (evs al) 25)) rfl (by kernel_rfl) ?_)
  clear g0 g1 g2 g3 g4 g5 g6 g7 g8 g9 g10 g11 g12 g13 g14 g15 g16 g17 g18 g19 g20 g21 g22 g23 g24 g25 g26 g27
  show Code.wp _ _ _ _ (w.alloc (.cells (evs al) 25))
  generalize hW:w.alloc (.cells (evs al) 25)=W at HB HS HC ⊢
  have HW:=Lib.hid hW
  clear hW
  go_loop [39] (fun i=>∃ k:Nat,k<m∧i=.int .i64 k) (fun i=>28-(intOf i).toNat)
  case atStart=>exact ⟨0,by omega,rfl⟩
  case round =>
   obtain ⟨k,hk,rfl⟩:=hrel
   have hc:=HC.out k (by omega)
   by_cases hlast:m=k+1
   ·subst hlast
    have C:=Lib.hid (is_ev HS.out (k+1) k h0 hm (by omega))
    go_wp2_with (go_at_call 61;refine (C.out).mono ?_;rintro e w' ⟨rfl,rfl⟩)
    go_ret
    exact ⟨by simp,HB.out⟩
   ·have hdd:decide (m=k+1)=false:=by simpa using hlast
    have C:=Lib.hid (is_ev HS.out m k h0 hm (by omega))
    go_wp2_with (go_at_call 61;refine (C.out).mono ?_;rintro e w' ⟨rfl,rfl⟩)
    go_round
    case rel=>exact ⟨k+1,by omega,by go_num⟩
    case measure=>simp [intOf];omega
end Go.Proofs.YthlpfjnkieaeeaaGreatDoor
namespace Go.Proofs.YthlpfjnkieaeeaaGreatDoor
set_option linter.unusedVariables false
namespace Am
open Go.RowKit
section
variable {gs:List Nat} [OkG gs]
theorem num_ac (m:Nat) (hm:m≤28):ACp gs Tryz.prog 12 [.err m] (.c (.int .i64 m)) :=
 ac_old fun al w St vals hs hv hr=>by
  have h0:vals.getD 0 undef=ev al m:=hr 0
  rw [vals1 hv,h0]
  exact num_any hs.std m hm
end
section
variable {gs:List Nat} [Ok9 gs]

theorem made_ac {gs:List Nat} (t:Int):ACp gs Tryz.prog 126 [.c (.int .i64 t)] (.c (.bool (madeM t))):=by
 refine ac_of 17 Tryz.func126 rfl rfl rfl (fun al w0 F0 St0=>?_)
 refine jU 1216516 ?_;refine jqsp 5 (fun g31=>?_) fun g31=>?_
 ·refine jU 5180004444441800044 ?_
  refine jR (jrt (hv:=?_))
  refine cB ?_
  (simp [madeM, *];done)
 refine jU 150021 ?_;refine jqsp 9 (fun g31_2=>?_) fun g31_2=>?_
 ·refine jU 518000444444 ?_
  refine jR (jrt (hv:=?_))
  refine cB ?_
  (simp [madeM, *];done)
 refine jU 121 ?_;refine jqsp 12 (fun g31_3=>?_) fun g31_3=>?_
 ·refine jU 51500800021 ?_
  refine jR (jrt (hv:=?_))
  refine cB ?_
  (simp [madeM, *];done)
 refine jU 5150050044 ?_
 refine jR (jrt (hv:=?_))
 refine cB ?_
 (simp [madeM, *];done)
theorem rmade_ac {gs:List Nat} (t:Int):ACp gs Tryz.prog 134 [.c (.int .i64 t)] (.c (.bool (madeM t))):=by
 refine ac_of 17 Tryz.func134 rfl rfl rfl (fun al w0 F0 St0=>?_)
 refine jU 1216516 ?_;refine jqsp 5 (fun g13=>?_) fun g13=>?_
 ·refine jU 5180004444441800044 ?_
  refine jR (jrt (hv:=?_))
  refine cB ?_
  (simp [madeM, *];done)
 refine jU 150021 ?_;refine jqsp 9 (fun g13_2=>?_) fun g13_2=>?_
 ·refine jU 518000444444 ?_
  refine jR (jrt (hv:=?_))
  refine cB ?_
  (simp [madeM, *];done)
 refine jU 121 ?_;refine jqsp 12 (fun g13_3=>?_) fun g13_3=>?_
 ·refine jU 51500800021 ?_
  refine jR (jrt (hv:=?_))
  refine cB ?_
  (simp [madeM, *];omega)
 refine jU 5150050044 ?_
 refine jR (jrt (hv:=?_))
 refine cB ?_
 (simp [madeM, *];done)
theorem plain_ac {gs:List Nat}:ACp gs Tryz.prog 263 [] (isC plainT):=by
 refine ac_of 2 Tryz.func263 rfl rfl rfl (fun al w0 F0 St0=>?_)
 refine jU 6516 ?_
 refine jqe (jebl 9 1 zr3 fun p1=>?_)
 refine jU 51 ?_;refine jE (freeze 0 rfl) ?_;refine jE (thawIL 0 (plainT) rfl rfl rfl rfl (fun j hj=>fl_ints (plainT) j hj)) ?_
 refine jR (jrt (hv:=cZ))
theorem known_ac {gs:List Nat} (t:Int):ACp gs Tryz.prog 236 [.c (.int .i64 t)] (.c (.bool (knownM t))):=by
 refine ac_of 10 Tryz.func236 rfl rfl rfl (fun al w0 F0 St0=>?_)
 refine jU 16516 ?_
 refine jqe (jecP (made_ac _) ?_)
 refine jU 1 ?_;refine jqsp 5 (fun g35=>?_) fun g35=>?_
 ·refine jU 518000444 ?_
  refine jR (jrt (hv:=?_))
  refine cB ?_
  try rw [plain_known]
  (simp [knownM,madeM, *];done)
 refine jqe (jecP plain_ac ?_)
 refine jU 1 ?_
 refine jqe (jecP (contains64_ac plainT t) ?_)
 refine jU 51500 ?_
 refine jR (jrt (hv:=?_))
 refine cB ?_
 try rw [plain_known]
 (simp [knownM,madeM, *];done)
theorem rknown_ac {gs:List Nat} (t:Int):ACp gs Tryz.prog 132 [.c (.int .i64 t)] (.c (.bool (knownM t))):=by
 refine ac_of 25 Tryz.func132 rfl rfl rfl (fun al w0 F0 St0=>?_)
 refine jU 16516 ?_
 refine jqe (jecP (rmade_ac _) ?_)
 refine jU 1 ?_;refine jqsp 5 (fun g16=>?_) fun g16=>?_
 ·refine jU 518000441800044180004418000444444 ?_
  refine jR (jrt (hv:=?_))
  refine cB ?_
  (simp [knownM,madeM, *];done)
 refine jU 121 ?_;refine jqsp 8 (fun g16_2=>?_) fun g16_2=>?_
 rotate_left
 ·refine jU 150021150050044 ?_;refine jqsp 17 (fun g16_3=>?_) fun g16_3=>?_
  ·refine jU 518000441800044 ?_
   refine jR (jrt (hv:=?_))
   refine cB ?_
   (simp [knownM,madeM, *];done)
  refine jU 150021 ?_;refine jqsp 21 (fun g16_4=>?_) fun g16_4=>?_
  ·refine jU 51800044 ?_
   refine jR (jrt (hv:=?_))
   refine cB ?_
   (simp [knownM,madeM, *];done)
  refine jU 5150021 ?_
  refine jR (jrt (hv:=?_))
  refine cB ?_
  (simp [knownM,madeM, *];done)
 refine jU 1500800021 ?_;refine jqsp 13 (fun g16_3=>?_) fun g16_3=>?_
 ·refine jU 5180004418000441800044 ?_
  refine jR (jrt (hv:=?_))
  refine cB ?_
  (simp [knownM,madeM, *];done)
 refine jU 150021 ?_;refine jqsp 17 (fun g16_4=>?_) fun g16_4=>?_
 ·refine jU 518000441800044 ?_
  refine jR (jrt (hv:=?_))
  refine cB ?_
  (simp [knownM,madeM, *];done)
 refine jU 150021 ?_;refine jqsp 21 (fun g16_5=>?_) fun g16_5=>?_
 ·refine jU 51800044 ?_
  refine jR (jrt (hv:=?_))
  refine cB ?_
  (simp [knownM,madeM, *];done)
 refine jU 5150021 ?_
 refine jR (jrt (hv:=?_))
 refine cB ?_
 (simp [knownM,madeM, *];done)
theorem rlen_ac {gs:List Nat} (n:Nat) (hn:n<4294967296):ACp gs Tryz.prog 133 [.c (.int .i64 n)] (bsC (lenL n)):=by
 refine ac_of 50 Tryz.func133 rfl rfl rfl (fun al w0 F0 St0=>?_)
 refine jU 52167516 ?_;refine jcc (fun h21=>?_) fun h21=>?_
 ·refine jU 80000016 ?_
  refine jqe (jebl 1 1 zr5 fun p1=>?_)
  refine jU 51 ?_;refine jE (freeze 0 rfl) ?_;refine jE (thawBL 2 ([b8 n]) rfl rfl rfl rfl (.cons (cI ((by rw [b8_mod];omega))) .nil)) ?_
  refine jR (jtr (jrt (hv:=CEnt.bs (by unfold lenL;rw [if_pos (by omega)]))))
 refine jU 52167810 ?_;refine jcc (fun h24=>?_) fun h24=>?_
 ·refine jU 80000016 ?_
  refine jqe (jebl 2 1 zr5 fun p1=>?_)
  refine jU 51 ?_;refine jE (freeze 0 rfl) ?_;refine jE (thawBL 2 ([129,b8 n]) rfl rfl rfl rfl (.cons (cI (rfl)) (.cons (cI ((by rw [b8_mod];omega))) .nil))) ?_
  refine jR (jtr (jrt (hv:=CEnt.bs (by unfold lenL;rw [if_neg (by omega),if_pos (by omega)]))))
 refine jU 52167810 ?_;refine jcc (fun h27=>?_) fun h27=>?_
 ·refine jU 8000001000000180000060000016 ?_
  refine jqe (jebl 3 1 zr5 fun p1=>?_)
  refine jU 51 ?_;refine jE (freeze 0 rfl) ?_;refine jE (thawBL 2 ([130,b8 (n / 256),b8 n]) rfl rfl rfl rfl (.cons (cI (rfl)) (.cons (cI ((by rw [b8_mod];omega))) (.cons (cI ((by rw [b8_mod];omega))) .nil)))) ?_
  refine jR (jtr (jrt (hv:=CEnt.bs (by unfold lenL;rw [if_neg (by omega),if_neg (by omega),if_pos (by omega)]))))
 refine jU 52167810 ?_;refine jcc (fun h30=>?_) fun h30=>?_
 ·refine jU 800000100000018000001000000600000180000060000016 ?_
  refine jqe (jebl 4 1 zr5 fun p1=>?_)
  refine jU 51 ?_;refine jE (freeze 0 rfl) ?_;refine jE (thawBL 2 ([131,b8 (n / 65536),b8 (n / 256),b8 n]) rfl rfl rfl rfl (.cons (cI (rfl)) (.cons (cI ((by rw [b8_mod];omega))) (.cons (cI ((by rw [b8_mod];omega))) (.cons (cI ((by rw [b8_mod];omega))) .nil))))) ?_
  refine jR (jtr (jrt (hv:=CEnt.bs (by unfold lenL;rw [if_neg (by omega),if_neg (by omega),if_neg (by omega),if_pos (by omega)]))))
 refine jU 80000010000001800000100000060000018000001000000600000180000060000016810 ?_
 refine jqe (jebl 5 1 zr5 fun p1=>?_)
 refine jU 51 ?_;refine jE (freeze 0 rfl) ?_;refine jE (thawBL 2 ([132,b8 (n / 16777216),b8 (n / 65536),b8 (n / 256),b8 n]) rfl rfl rfl rfl (.cons (cI (rfl)) (.cons (cI ((by rw [b8_mod];omega))) (.cons (cI ((by rw [b8_mod];omega))) (.cons (cI ((by rw [b8_mod];omega))) (.cons (cI ((by rw [b8_mod];omega))) .nil)))))) ?_
 refine jR (jrt (hv:=CEnt.bs (by unfold lenL;rw [if_neg (by omega),if_neg (by omega),if_neg (by omega),if_neg (by omega)])))
def lowL (n k:Nat):List UInt8:=(List.range k).map fun i=>b8 (n / 256 ^ i)
theorem lowL_succ (n k:Nat):lowL n (k+1)=lowL n k++[b8 (n / 256 ^ k)]:=by simp [lowL,List.range_succ]
theorem lowL_len (n k:Nat):(lowL n k).length=k:=by simp [lowL]
theorem length_ac {gs:List Nat} (n:Nat) (hn:n<65536):ACp gs Tryz.prog 239 [.c (.int .i64 n)] (bsC (lenL n)):=by
 refine ac_of 28 Tryz.func239 rfl rfl rfl (fun al w0 F0 St0=>?_)
 refine jU 52167516 ?_;refine jcc (fun h39=>?_) fun h39=>?_
 ·refine jU 80000016 ?_
  refine jqe (jebl 1 1 zr5 fun p1=>?_)
  refine jU 51 ?_;refine jE (freeze 0 rfl) ?_;refine jE (thawBL 2 ([b8 n]) rfl rfl rfl rfl (.cons (cI ((by rw [b8_mod];omega))) .nil)) ?_
  refine jR (jtr (jrt (hv:=CEnt.bs (by unfold lenL;rw [if_pos (by omega)]))))
 refine jU 207516810 ?_;refine jE (own_nil 3 1 (byF []) rfl) ?_;refine l_loop (α:=Nat×Option Nat) [0,3,9,10,11,12,13,14,15,16,17] (fun (k,g)=>[(0,.c (.int .i64 ((n / 256 ^ k:Nat):Int))),(3,.os 0 g 0 (lowL n k).length 1)]) (fun (k,g)=>[(g,.blk (lowL n k).length (byF (lowL n k)))]) (fun k=>k.1=0∨k.1=1∨(k.1=2∧256≤n)) (fun k=>2-k.1) ((0,none)) ?_ (fun _=>rfl) ?_ ?_ ?_
 ·exact .inl rfl
 ·exact .cons (cI (by simp)) (.cons cZ .nil)
 ·exact .same .nil
 ·rintro ⟨k,g'⟩ (hk:k=0∨k=1∨(k=2∧256≤n))
  refine jU 52167 ?_;refine jcc (fun h43=>?_) fun h43=>?_
  ·refine jU 207810 ?_
   have hlk:=lowL_len n k
   have hk3:k≤2:=by omega
   refine jU 11200 ?_;refine jq (jrvW .i64 .u8) ?_
   refine jqe (jebl 1 1 zr5 fun p1=>?_)
   refine jqm (m_appendB (l2:=[b8 (n / 256 ^ k)]) rfl rfl rfl (Nat.le_refl _) (fun _ _=>cZ) (src_os rfl (.inl rfl) (by decide)) rfl (hh_bytes (.cons (cI ((by rw [b8_mod];generalize n / 256 ^ k=q;(simp only [IntKind.wrap_u8];omega)))) .nil)) Tryz.underlying22 nu22 sz5 zr5 by5 rfl (by (simp;omega)) (leaf_fl rfl rfl) rfl rfl (fun p2=>?_))
   refine jU 1200840051 ?_;refine jq (rd_shr rfl rfl rfl (by (omega)) _ rfl) ?_;refine jU 851 ?_
   refine jlend ((k+1,p2)) ?_ ?_ (h5:=?_) (h7:=?_)
   ·show k+1=0∨k+1=1∨(k+1=2∧256≤n)
    rcases hk with rfl|rfl|⟨rfl,h2⟩
    ·omega
    ·simp at h43;omega
    ·simp at h43;omega
   ·show 2-(k+1)<2-k
    rcases hk with rfl|rfl|⟨rfl,h2⟩
    ·omega
    ·omega
    ·simp at h43;omega
   ·simp only [lowL_succ]
    exact .cons (cI (by rw [Nat.pow_succ,← Nat.div_div_eq_div_mul,Int.fdiv_eq_ediv_of_nonneg _ (by decide)];rfl)) (.cons cZ .nil)
   ·simp only [lowL_succ]
    exact .same .nil
  refine jU 84000200020006000 ?_
  have hlk:=lowL_len n k
  have hk3:k≤2:=by omega
  refine jU 80000093116 ?_
  refine jqe (jebl 1 1 zr5 fun p1=>?_)
  refine jqm (m_appendB (l2:=[b8 (128+k)]) rfl rfl rfl (Nat.le_refl _) (fun _ _=>cZ) (src_os rfl (.inl rfl) (by decide)) rfl (hh_bytes (.cons (cI ((by rw [b8_mod];simp only [hlk];omega))) .nil)) Tryz.underlying22 nu22 sz5 zr5 by5 rfl (by (simp;omega)) (leaf_fl rfl rfl) rfl rfl (fun p2=>?_))
  refine jU 1651 ?_
  refine jqm (jmcH 0 (reverse8_ac _ (lowL n k++[b8 (128+k)]) (by simp [hlk];omega)) ?_)
  rintro _ _ ⟨rfl,rfl⟩
  refine ⟨_,_,rfl,cZ,?_⟩
  refine jU 51165 ?_;refine jE (freeze 0 rfl) ?_;refine jE (thawB 2 ((lowL n k++[b8 (128+k)]).reverse) rfl rfl (by simp) rfl) ?_
  refine jR (jrt (hv:=?_))
  refine CEnt.bs ?_
  rcases hk with rfl|rfl|⟨rfl,h2⟩
  ·simp at h43;omega
  ·simp at h43
   unfold lenL
   rw [if_neg (by omega),if_pos (by omega)]
   simp [lowL,List.range_succ]
   rfl
  ·unfold lenL
   rw [if_neg (by omega),if_neg (by omega),if_pos (by omega)]
   simp [lowL,List.range_succ]
   rfl
def elC (tag:Nat) (body:List UInt8):CV:=.agg 2 (fl [.c (.int .i64 tag),bsC body])
theorem measure_ac (b:List UInt8):ACp gs Tryz.prog 237 [bsC b] (.tup 3 (fl [.c (.int .i64 (measM b).n),bsC (measM b).rest,.err (measM b).e])):=by
 refine ac_of 67 Tryz.func237 rfl rfl rfl (fun al w0 F0 St0=>?_)
 refine jU 52316751116 ?_;refine jcc (fun h72=>?_) fun h72=>?_
 ·refine jcs ?_;refine jcd (.rd 0 (.rd 1 (.rd 2 (.rd 3 .done)))) ?_;refine jyq (jrde 1) ?_;refine jU 880707070 ?_
  refine jR (jtr (jrt (hv:=?_)))
  have:b.length=0:=by omega
  unfold measM
  rw [if_pos this]
  exact CEnt.tup3 cZ cN cZ
 refine jU 7810 ?_;refine jcd (.rd 0 (.rd 1 (.rd 2 (.rd 3 (.rd 4 (.rd 5 (.rd 6 (.rd 7 .done)))))))) ?_;refine jU 70 ?_;refine jyq (jri (i:=0)) ?_;refine jyq jrdr ?_;refine jyq (jrv8 .i64) ?_;refine jU 70 ?_;refine jyq (jrsf (hz1:=(show (1:Int)=((1:Nat):Int) from rfl))) ?_;refine jU 78807070 ?_
 obtain ⟨c,hc⟩:∃ c,c=(b.getD 0 0).toNat:=⟨_,rfl⟩
 obtain ⟨r,hr⟩:∃ r,r=b.drop 1:=⟨_,rfl⟩
 have c8:c<256:=by rw [hc];exact (b.getD 0 0).toNat_lt
 have hM:=measM_ne (by omega) hc hr
 refine jE (weaken 5 (.c (.int .i64 (c:Nat))) (cI (by rw [hc]))) ?_;refine jE (weaken 0 (bsC r) (CEnt.bs hr.symm)) ?_;refine jU 5216 ?_;refine jcc (fun h76=>?_) fun h76=>?_
 ·refine jU 5111116 ?_
  refine jR (jtr (jrt (hv:=?_)))
  rw [hM,if_pos (by omega)]
  exact CEnt.tup3 cZ cZ CEnt.nil
 refine jU 121620751916810 ?_;refine jqsp 29 (fun g81=>?_) fun g81=>?_
 ·refine jU 7900051800044 ?_;refine jcd (.rd 0 (.rd 1 (.rd 2 (.rd 3 .done)))) ?_;refine jU 8807070704000000 ?_
  refine jR (jbr (jtr (jrt (hv:=?_))))
  rw [hM,if_neg (by omega),if_pos (by omega)]
  exact CEnt.tup3 cZ cN cZ
 refine jU 5150021 ?_;refine jcc (fun h81=>?_) fun h81=>?_
 ·refine jcs ?_;refine jcd (.rd 0 (.rd 1 (.rd 2 (.rd 3 .done)))) ?_;refine jU 8807070704000000 ?_
  refine jR (jbr (jtr (jrt (hv:=?_))))
  rw [hM,if_neg (by omega),if_pos (by omega)]
  exact CEnt.tup3 cZ cN cZ
 refine jU 5121316 ?_;refine jcc (fun h83=>?_) fun h83=>?_
 ·refine jcs ?_;refine jcd (.rd 0 (.rd 1 (.rd 2 (.rd 3 .done)))) ?_;refine jyq (jrde 1) ?_;refine jU 880707070 ?_
  refine jR (jbr (jtr (jrt (hv:=?_))))
  rw [hM,if_neg (by omega),if_neg (by omega),if_pos (by omega)]
  exact CEnt.tup3 cZ cN cZ
 refine jU 840010 ?_
 obtain ⟨w,hw⟩:∃ w,w=c-128:=⟨_,rfl⟩
 have hwr:w≤r.length:=by omega
 refine jE (weaken 6 (.c (.int .i64 (w:Nat))) (cI (by omega))) ?_;refine jU 7516 ?_
 have htl:(r.take w).length=w:=by simp;omega
 refine jU 2051390000000116 ?_;refine l_loop (α:=Nat) [7,9,44,45,46,47,48,49,50,51,52,53] (fun i=>[(7,.c (.int .i64 (beN ((r.take w).take i):Nat))),(44,.c (.int .i64 (i:Nat)))]) (fun _=>[]) (fun i=>i≤w) (fun i=>w-i) (0) ?_ (fun _=>rfl) ?_ ?_ ?_
 ·exact Nat.zero_le _
 ·(repeat (first|exact EntE.nil|refine EntE.cons cZ ?_))
 ·(repeat (exact HEnt.nil))
 ·rintro i (hi:i≤w)
  have htl:(r.take w).length=w:=by simp;omega
  refine jU 7526 ?_;refine jcc (fun h87=>?_) fun h87=>?_
  ·refine jU 207810 ?_
   have htl:(r.take w).length=w:=by simp;omega
   refine jU 51607006 ?_
   have hbn:=beN_lt ((r.take w).take i)
   have hbl:((r.take w).take i).length=i:=by simp;omega
   have hb3:beN ((r.take w).take i)<16777216:=by
    rw [hbl] at hbn
    have:i≤3:=by omega
    have:=Nat.pow_le_pow_right (n:=256) (by decide) this
    omega
   have hc8:=((r.take w).getD i 0).toNat_lt
   refine jU 1200 ?_;refine jq (rd_shl rfl rfl rfl (by (omega)) (((beN ((r.take w).take i) * 256:Nat):Int)) ((by show IntKind.i64.wrap (((beN ((r.take w).take i):Nat):Int) * 2 ^ 8)=_;rw [IntWalk.i64_in _ (by omega)];omega))) ?_;refine jU 8400519700000001 ?_
   have htl:(r.take w).length=w:=by simp;omega
   refine jU 8519200 ?_
   refine jlend (i+1) ?_ ?_ (h5:=?_)
   ·show i+1≤w;omega
   ·omega
   ·exact .cons (cI (by rw [beN_take (by omega)];omega)) (.cons cZ .nil)
  refine jU 784000200020006000 ?_
  have hiw:i=w:=by omega
  have htt:(r.take w).take i=r.take (c-128):=by rw [hiw,hw,List.take_take,Nat.min_self]
  refine jE (weaken 7 (.c (.int .i64 (beN (r.take (c-128)):Nat))) (cI (by rw [htt]))) ?_;refine jU 1216 ?_;refine jqsp 56 (fun g90=>?_) fun g90=>?_
  ·refine jU 79000580004444 ?_;refine jcd (.rd 0 (.rd 1 (.rd 2 (.rd 3 .done)))) ?_;refine jU 8807070704000000 ?_
   refine jR (jtr (jrt (hv:=?_)))
   rw [hM,if_neg (by omega),if_neg (by omega),if_neg (by omega),if_pos (by omega)]
   exact CEnt.tup3 cZ cN cZ
  refine jU 550026020000001 ?_;refine jcc (fun h90=>?_) fun h90=>?_
  ·refine jcs ?_;refine jcd (.rd 0 (.rd 1 (.rd 2 (.rd 3 .done)))) ?_;refine jU 8807070704000000 ?_
   refine jR (jtr (jrt (hv:=?_)))
   rw [hM,if_neg (by omega),if_neg (by omega),if_neg (by omega),if_pos (by omega)]
   exact CEnt.tup3 cZ cN cZ
  refine jU 7810 ?_;refine jcd (.rd 0 (.rd 1 (.rd 2 (.rd 3 (.rd 4 (.rd 5 (.rd 6 .done))))))) ?_;refine jU 707070 ?_;refine jyq jrsf ?_;refine jU 880707070 ?_
  refine jR (jrt (hv:=?_))
  rw [hM,if_neg (by omega),if_neg (by omega),if_neg (by omega),if_neg (by omega)]
  refine CEnt.tup3 cZ (CEnt.bs ?_) CEnt.nil
  rw [hw]
end
section
variable {gs:List Nat} [Ok9 gs]

theorem next_ac (b:List UInt8) (hb:b.length≤10000000):ACp gs Tryz.prog 197 [bsC b] (.tup 3 (fl [elC (nextM b).tag (nextM b).body,bsC (nextM b).rest,.err (nextM b).e])):=by
 have hml:=measM_rest (b.drop 1)
 refine ac_of 56 Tryz.func197 rfl rfl rfl (fun al w0 F0 St0=>?_)
 refine jcr ?_
 refine jqe (jeal (n:=2) zr199 rfl fun p1=>?_)
 refine jU 523167511 ?_;refine jcc (fun h98=>?_) fun h98=>?_
 ·refine jcs ?_;refine jcdZ (.rd 0 (.rd 1 (.one 2 (.rd 3 (.rd 4 .done))))) ?_;refine jzq (rd_build (n:=2) rfl zr199 pl199 rfl rfl) ?_;refine jzq (jrde 1) ?_
  refine jzm (jmst 2 ?_)
  refine jU 8700000400000400000 ?_
  refine jR (jtr (jrt (hres:=res_3 rfl (javA 2) javt javt) (hv:=?_)))
  have:b.length=0:=by omega
  unfold nextM
  rw [if_pos this]
  exact CEnt.tup3 (CEnt.agg2 cZ cN) cN cZ
 refine jU 7517000000060200000016810 ?_
 obtain ⟨t,ht⟩:∃ t,t=(b.getD 0 0).toNat:=⟨_,rfl⟩
 refine jE (weaken 5 (.c (.int .i64 (t:Nat))) (cI (by rw [ht]))) ?_;refine jU 16 ?_
 refine jqe (jecP (known_ac _) ?_)
 refine jU 530 ?_;refine jcc (fun h102=>?_) fun h102=>?_
 ·refine jcs ?_;refine jcdZ (.rd 0 (.rd 1 (.one 2 (.rd 3 (.rd 4 .done))))) ?_;refine jzq (rd_build (n:=2) rfl zr199 pl199 rfl rfl) ?_;refine jzq (jrde 4) ?_
  refine jzm (jmst 2 ?_)
  refine jU 8700000400000400000 ?_
  refine jR (jtr (jrt (hres:=res_3 rfl (javA 2) javt javt) (hv:=?_)))
  have hk:knownM (t:Nat)=false:=by simpa using h102
  unfold nextM
  rw [if_neg (by omega),if_pos (by rw [← ht];exact hk)]
  exact CEnt.tup3 (CEnt.agg2 cZ cN) cN cZ
 refine jU 810 ?_
 have hk:knownM (t:Nat)=true:=by simpa using h102
 have hN:=nextM_ne (by omega) ht hk rfl
 refine jU 16 ?_;refine jq (jrsf (hz1:=(show (1:Int)=((1:Nat):Int) from rfl))) ?_
 refine jqe (jecP (measure_ac _) ?_)
 refine jU 515000001620751119009009001 ?_;refine jcc (fun h107=>?_) fun h107=>?_
 ·refine jcr ?_;refine jq (rd_build (n:=2) rfl zr199 pl199 rfl rfl) ?_;refine jU 1 ?_
  refine jqm (jmst 2 ?_)
  refine jU 511 ?_
  refine jR (jbr (jtr (jrt (hres:=res_3 rfl (javA 2) javt javt) (hv:=?_))))
  rw [hN,if_pos (by omega)]
  exact CEnt.tup3 (CEnt.agg2 cZ cN) cN cZ
 refine jU 51216 ?_;refine jcc (fun h109=>?_) fun h109=>?_
 ·refine jcs ?_;refine jcdZ (.rd 0 (.rd 1 (.one 2 (.rd 3 (.rd 4 .done))))) ?_;refine jzq (rd_build (n:=2) rfl zr199 pl199 rfl rfl) ?_;refine jzq (jrde 2) ?_
  refine jzm (jmst 2 ?_)
  refine jU 8700000400000400000 ?_
  refine jR (jbr (jtr (jrt (hres:=res_3 rfl (javA 2) javt javt) (hv:=?_))))
  rw [hN,if_neg (by omega),if_pos (by omega)]
  exact CEnt.tup3 (CEnt.agg2 cZ cN) cN cZ
 refine jU 5123116 ?_;refine jcc (fun h111=>?_) fun h111=>?_
 ·refine jcs ?_;refine jcdZ (.rd 0 (.rd 1 (.one 2 (.rd 3 (.rd 4 .done))))) ?_;refine jzq (rd_build (n:=2) rfl zr199 pl199 rfl rfl) ?_;refine jzq (jrde 1) ?_
  refine jzm (jmst 2 ?_)
  refine jU 8700000400000400000 ?_
  refine jR (jbr (jtr (jrt (hres:=res_3 rfl (javA 2) javt javt) (hv:=?_))))
  rw [hN,if_neg (by omega),if_neg (by omega),if_pos (by omega)]
  exact CEnt.tup3 (CEnt.agg2 cZ cN) cN cZ
 refine jU 7840010 ?_;refine jcdB 10 (.rd 0 (.rd 1 (.rd 2 (.rd 3 (.rd 6 (.rd 7 (.rd 8 (.one 4 (.rd 5 (.one 9 .done)))))))))) ?_;refine jU 707070 ?_;refine jyq jrst ?_;refine jU 7070 ?_;refine jyq jrsf ?_
 refine jye (jecP (clone8_ac ((measM (b.drop 1)).rest.take (measM (b.drop 1)).n) (by rw [List.length_take];have:=hml.1;rw [List.length_drop] at this;omega)) ?_)
 refine jyq (rd_build (n:=2) rfl zr199 pl199 rfl rfl) ?_
 refine jye (jecP (clone8_ac ((measM (b.drop 1)).rest.drop (measM (b.drop 1)).n) (by rw [List.length_drop];have:=hml.1;rw [List.length_drop] at this;omega)) ?_)
 refine jyd ?_
 show ASeq _ _ _ _ _ _
 refine jqm (jmst 2 ?_)
 refine jU 8511 ?_
 refine jR (jrt (hres:=res_3 rfl (javA 2) javt javt) (hv:=?_))
 rw [hN,if_neg (by omega),if_neg (by omega),if_neg (by omega)]
 exact CEnt.tup3 (CEnt.agg2 cZ cZ) cZ CEnt.nil

theorem loopW_nil (rec:Nat→List UInt8→Nat×Nat) (set:Bool) (lv fuel:Nat) (last:List UInt8) (dp:Nat):loopW rec set lv fuel [] last dp=(dp,0):=by
 cases fuel <;> simp [loopW]
theorem loopW_step (rec:Nat→List UInt8→Nat×Nat) (set:Bool) (lv fuel:Nat) (b last:List UInt8) (dp:Nat) (hb:0<b.length) (hf:b.length≤fuel):loopW rec set lv fuel b last dp =
  if (nextM b).e≠0 then (0,(nextM b).e) else
  if lv≤1 then (0,6) else
  if (rec (nextM b).tag (nextM b).body).2≠0 then (0,(rec (nextM b).tag (nextM b).body).2) else
  if set=true∧Op.bytesLess (b.take (b.length-(nextM b).rest.length)) last=true then (0,7) else
  loopW rec set lv (fuel-1) (nextM b).rest (b.take (b.length-(nextM b).rest.length)) (max dp ((rec (nextM b).tag (nextM b).body).1+1)):=by
 obtain ⟨m,rfl⟩:∃ m,fuel=m+1:=⟨fuel-1,by omega⟩
 rw [loopW,if_neg (by omega)]
 rfl
structure WS where
 f:Nat
 b:List UInt8
 last:List UInt8
 dp:Nat
theorem whole_ac:∀ (lv tag:Nat) (body:List UInt8),lv<16→body.length≤1000000→ACp gs Tryz.prog 198 [elC tag body,.c (.int .i64 ((lv+1:Nat):Int))] (.tup 2 (fl [.c (.int .i64 (wholeM (lv+1) tag body).1),.err (wholeM (lv+1) tag body).2])):=by
 intro lv
 induction lv using Nat.strongRecOn with
 | _ lv ih =>
 intro tag body hlv hbody
 have ih':1≤lv→∀ (tag:Nat) (body:List UInt8),body.length≤1000000→ACp gs Tryz.prog 198 [elC tag body,.c (.int .i64 (lv:Nat))] (.tup 2 (fl [.c (.int .i64 (wholeM lv tag body).1),.err (wholeM lv tag body).2])):=fun h tag body hb=>by
  have:=ih (lv-1) (by omega) tag body (by omega) hb
  rwa [show lv-1+1=lv by omega] at this
 have hR:∀ t b,(wholeM lv t b).1≤lv+1∧(wholeM lv t b).2≤7:=fun t b=>wholeM_bd lv t b
 refine ac_of 70 Tryz.func198 rfl rfl rfl (fun al w0 F0 St0=>?_)
 refine jcr ?_
 refine jqe (jebx 2 fun p1=>?_)
 refine jU 509067516511 ?_
 refine jqe (jecP (made_ac _) ?_)
 refine jU 530 ?_;refine jcc (fun h134=>?_) fun h134=>?_
 ·refine jU 51116 ?_
  refine jR (jtr (jrt (hv:=?_)))
  have hmd:madeM (tag:Nat)=false:=decide_eq_false h134
  rw [wholeM,if_pos hmd]
  exact cT cZ CEnt.nil
 refine jU 810 ?_
 have hmd:madeM (tag:Nat)=true:=decide_eq_true (Decidable.not_not.1 h134)
 have hw0:wholeM (lv+1) tag body=loopW (wholeM lv) (decide (tag=49)) (lv+1) body.length body [] 1:=by
  rw [wholeM,if_neg (by rw [hmd];exact Bool.noConfusion)]
 refine jU 20515010067516 ?_;refine l_loop (α:=WS×Option Nat) [4,5,6,7,8,9,10,11,12,13,21,22,23,24,25,26,27,28,29,30,31,32,33,34,35,36,37,38,39,40,41,42,43,44,45,46,47,48,49,50,51,52,53,54,55,56,57,58,59,60,61,62,63,64,65,66,67,68] (fun (x,g)=>[(6,.c (.int .i64 (x.dp:Nat))),(7,bsC x.last),(8,bsC x.b)]) (fun (x,g)=>[(p1,.blk 2 (fl [.c (.int .i64 tag),bsC body]))]) (fun x=>x.1.b.length≤x.1.f∧x.1.b.length≤1000000∧x.1.dp≤lv+2∧loopW (wholeM lv) (decide (tag=49)) (lv+1) x.1.f x.1.b x.1.last x.1.dp=wholeM (lv+1) tag body) (fun x=>x.1.f) ((⟨body.length,body,[],1⟩,none)) ?_ (fun _=>rfl) ?_ ?_ ?_
 ·exact ⟨Nat.le_refl _,hbody,by show 1≤lv+2;omega,hw0.symm⟩
 ·exact .cons cZ (.cons cN (.cons cZ .nil))
 ·exact .same .nil
 ·rintro ⟨x,g'⟩ ⟨hxf,hxb',hdp,hw⟩
  dsimp only at hxf hxb' hdp hw
  have hxb:x.b.length≤10000000:=by omega
  have hnb:=nextM_bd x.b
  refine jU 523167 ?_;refine jcc (fun h138=>?_) fun h138=>?_
  rotate_left
  ·refine jU 5111684000200020006000 ?_
   refine jR (jrt (hv:=?_))
   have hnil:x.b=[]:=List.eq_nil_of_length_eq_zero (by omega)
   rw [← hw,hnil,loopW_nil]
   exact cT cZ CEnt.nil
  refine jU 1620810 ?_
  refine jqe (jecP (next_ac x.b hxb) ?_)
  refine jU 9009009001 ?_
  refine jqe (jeal (n:=2) zr199 rfl fun p2=>?_)
  refine jqm (jmst 2 ?_)
  refine jU 5500000167511 ?_;refine jcc (fun h140=>?_) fun h140=>?_
  ·refine jU 51116 ?_
   refine jR (jtr (jbr (jtr (jbr (jtr (jrt (hv:=?_)))))))
   rw [← hw,loopW_step _ _ _ _ _ _ _ (by omega) hxf,if_pos h140]
   exact cZ
  refine jU 52167810 ?_;refine jcc (fun h143=>?_) fun h143=>?_
  ·refine jcs ?_;refine jcd (.rd 0 (.rd 1 (.rd 2 .done))) ?_;refine jyq (jrde 5) ?_;refine jU 8807070 ?_
   refine jR (jtr (jbr (jtr (jbr (jtr (jrt (hv:=?_)))))))
   rw [← hw,loopW_step _ _ _ _ _ _ _ (by omega) hxf,if_neg h140,if_pos (by omega)]
   exact cZ
  refine jU 6810 ?_;refine jqo (jrdoA 2) ?_;refine jU 91 ?_
  refine jqe (jecP (ih' (by omega) (nextM x.b).tag (nextM x.b).body (by omega)) ?_ (ho:=rfl) (he:=(.cons (se rfl (CEnt.agg2 cZ cZ)) (.cons (se rfl (cI (by omega))) .nil))))
  refine jU 75119009001 ?_
  have hRx:=hR (nextM x.b).tag (nextM x.b).body
  refine jU 550000016 ?_;refine jcc (fun h147=>?_) fun h147=>?_
  ·refine jU 51116 ?_
   refine jR (jtr (jbr (jtr (jbr (jtr (jrt (hv:=?_)))))))
   rw [← hw,loopW_step _ _ _ _ _ _ _ (by omega) hxf,if_neg h140,if_neg (by omega),if_pos h147]
   exact cZ
  refine jU 9313116810 ?_;refine jq (jrst (hz2:=(show _=(((x.b.length-(nextM x.b).rest.length):Nat):Int) by omega))) ?_;refine jU 1250906751 ?_;refine jqsp 56 (fun g151=>?_) fun g151=>?_
  rotate_left
  ·refine jU 911681030055004444 ?_;refine jq (rd_max2 rfl rfl rfl) ?_;refine jU 84005111120051 ?_
   refine jlend ((⟨x.f-1,(nextM x.b).rest,x.b.take (x.b.length-(nextM x.b).rest.length),max x.dp ((wholeM lv (nextM x.b).tag (nextM x.b).body).1+1)⟩,none)) ?_ ?_ (h5:=?_) (h7:=?_)
   ·exact ⟨by dsimp only;omega,by dsimp only;omega,by dsimp only;omega,by
     dsimp only
     rw [← hw,loopW_step _ _ _ _ _ _ _ (by omega) hxf,if_neg h140,if_neg (by omega),if_neg h147,if_neg (by
      rintro ⟨h1,h2⟩
      have h1:=of_decide_eq_true h1
      rw [← cmpL_lt] at h2
      have h2:=of_decide_eq_true h2
      omega)]⟩
   ·dsimp only
    omega
   ·exact .cons (cI (by dsimp only;omega)) (.cons cZ (.cons cZ .nil))
   ·exact .same .nil
  refine jU 11 ?_
  refine jqe (jecP (compare8_ac (x.b.take (x.b.length-(nextM x.b).rest.length)) x.last) ?_)
  refine jU 580002 ?_;refine jcc (fun h151=>?_) fun h151=>?_
  ·refine jcs ?_;refine jcd (.rd 0 (.rd 1 (.rd 2 .done))) ?_;refine jyq (jrde 6) ?_;refine jU 8807070 ?_
   refine jR (jtr (jbr (jtr (jbr (jtr (jrt (hv:=?_)))))))
   rw [← hw,loopW_step _ _ _ _ _ _ _ (by omega) hxf,if_neg h140,if_neg (by omega),if_neg h147,if_pos ⟨decide_eq_true (by omega),by rw [← cmpL_lt];exact decide_eq_true (by omega)⟩]
   exact cZ
  refine jU 9116810 ?_;refine jq (rd_max2 rfl rfl rfl) ?_;refine jU 84005111120051 ?_
  refine jlend ((⟨x.f-1,(nextM x.b).rest,x.b.take (x.b.length-(nextM x.b).rest.length),max x.dp ((wholeM lv (nextM x.b).tag (nextM x.b).body).1+1)⟩,none)) ?_ ?_ (h5:=?_) (h7:=?_)
  ·exact ⟨by dsimp only;omega,by dsimp only;omega,by dsimp only;omega,by
    dsimp only
    rw [← hw,loopW_step _ _ _ _ _ _ _ (by omega) hxf,if_neg h140,if_neg (by omega),if_neg h147,if_neg (by
     rintro ⟨h1,h2⟩
     have h1:=of_decide_eq_true h1
     rw [← cmpL_lt] at h2
     have h2:=of_decide_eq_true h2
     omega)]⟩
  ·dsimp only
   omega
  ·exact .cons (cI (by dsimp only;omega)) (.cons cZ (.cons cZ .nil))
  ·exact .same .nil
end
section
variable {gs:List Nat} [Ok9 gs]

theorem depth_ac (b:List UInt8) (hb:b.length≤10000000):ACp gs Tryz.prog 125 [bsC b] (.tup 2 (fl [.c (.int .i64 (depthM b).1),.err (depthM b).2])):=by
 have hnb:=nextM_bd b
 refine ac_of 30 Tryz.func125 rfl rfl rfl (fun al w0 F0 St0=>?_)
 refine jU 5231675116 ?_;refine jcc (fun h162=>?_) fun h162=>?_
 ·refine jcs ?_;refine jcd (.rd 0 (.rd 1 (.rd 2 .done))) ?_;refine jyq (jrde 2) ?_;refine jU 8807070 ?_
  refine jR (jtr (jrt (hv:=?_)))
  unfold depthM
  rw [if_pos (by omega)]
  exact cZ
 refine jU 16810 ?_
 refine jqe (jecP (next_ac b hb) ?_)
 refine jU 9009009001 ?_
 refine jqe (jeal (n:=2) zr199 rfl fun p1=>?_)
 refine jqm (jmst 2 ?_)
 refine jU 5150000016207511 ?_;refine jcc (fun h167=>?_) fun h167=>?_
 ·refine jU 51116 ?_
  refine jR (jbr (jtr (jrt (hv:=?_))))
  unfold depthM
  rw [if_neg (by omega),if_pos (by omega)]
  exact cZ
 refine jU 512316 ?_;refine jcc (fun h169=>?_) fun h169=>?_
 ·refine jcs ?_;refine jcd (.rd 0 (.rd 1 (.rd 2 .done))) ?_;refine jU 88070704000000 ?_
  refine jR (jbr (jtr (jrt (hv:=?_))))
  unfold depthM
  rw [if_neg (by omega),if_neg (by omega),if_pos (by omega)]
  exact cZ
 refine jU 6840010 ?_;refine jqo (jrdoA 2) ?_
 refine jqe (jecP (whole_ac 15 (nextM b).tag (nextM b).body (by omega) (by omega)) ?_ (ho:=rfl) (he:=(.cons (se rfl (CEnt.agg2 cZ cZ)) (.cons (se rfl cZ) .nil))))
 refine jU 511900900 ?_
 refine jR (jrt (hv:=?_))
 unfold depthM
 rw [if_neg (by omega),if_neg (by omega),if_neg (by omega)]
 exact cZ
theorem check_ac (b:List UInt8) (hb:b.length≤10000000):ACp gs Tryz.prog 53 [bsC b] (.err (depthM b).2):=by
 refine ac_of 11 Tryz.func53 rfl rfl rfl (fun al w0 F0 St0=>?_)
 refine jU 16516 ?_
 refine jqe (jecP (depth_ac b hb) ?_)
 refine jU 51165119009001 ?_
 refine jR jrt
def ex3a:List UInt8:=[48,3,2,1,5]
def ex3b:List UInt8:=[48,129,3,2,1,5]
theorem rput_ac {gs:List Nat} (tag:Int) (body:List UInt8) (ht:0≤tag∧tag<256) (hb:body.length≤10000000):ACp gs Tryz.prog 62 [.c (.int .i64 tag),bsC body] (bsC (putL tag body)):=by
 have hl:=lenL_bd body.length
 refine ac_of 14 Tryz.func62 rfl rfl rfl (fun al w0 F0 St0=>?_)
 refine jU 80000016516 ?_
 refine jqe (jebl 1 1 zr5 fun p1=>?_)
 refine jU 31 ?_
 refine jqe (jecP (rlen_ac body.length (by omega)) ?_)
 refine seq_ent (blk_ent 0 rfl (Nat.le_refl _) (fun _=>rfl) (fl_by (l2:=[b8 tag.toNat]) (.cons (cI ((by rw [b8_mod];omega))) .nil))) ?_
 refine jqm (m_appendB (l:=[b8 tag.toNat]) rfl rfl rfl (Nat.le_refl _) (fun _ _=>cZ) (src_rs rfl) rfl (fun j hj=>by simp only [Nat.div_one];exact cZ) Tryz.underlying22 nu22 sz5 zr5 by5 rfl (by (simp;omega)) (fun j hj=>rfl) rfl rfl (fun p2=>?_))
 refine jU 1 ?_
 refine jqm (m_appendB rfl rfl rfl (Nat.le_refl _) (fun _ _=>cZ) (src_rs rfl) rfl (fun j hj=>by simp only [Nat.div_one];exact cZ) Tryz.underlying22 nu22 sz5 zr5 by5 rfl (by (simp;omega)) (fun j hj=>rfl) rfl rfl (fun p3=>?_))
 refine jU 51 ?_;refine jE (freeze 0 rfl) ?_;refine jE (thawB 4 ([b8 tag.toNat]++lenL body.length++body) rfl rfl (by rfl) rfl) ?_
 refine jR (jrt (hv:=CEnt.bs (by simp [putL,b8])))
end
section
variable {gs:List Nat} [Ok9 gs]

theorem grow8_ac {gs:List Nat} (n:Nat) (hn:n≤100000000000):AC gs Tryz.prog 242 [] [.c (.slice none 0 0),.c (.int .i64 (n:Nat))] (OwnQ 0 1 0 fun _=>.top):=by
 refine ac_of 27 Tryz.func242 rfl rfl rfl (fun al w0 F0 St0=>?_)
 refine jU 52167516 ?_;refine jcc (fun h423=>?_) fun h423=>?_
 ·exfalso;omega
 refine jU 1167810 ?_;refine jq (rd_capN rfl rfl Tryz.underlying22) ?_;refine jU 5216519931 ?_;refine jcc (fun h426=>?_) fun h426=>?_
 rotate_left
 ·refine jU 810 ?_;refine jE (own_nil 0 1 (fun _=>.top) rfl) ?_;refine jU 70005116 ?_
  exact end_O 0 (.inl rfl) (res_1 rfl (arv_tmp rfl)) rfl rfl (Nat.le_refl _) (fun _=>rfl) (fun j hj=>absurd hj (Nat.not_lt_zero j))
 refine jU 11200 ?_;refine jq (rd_capN rfl rfl Tryz.underlying22) ?_;refine jq (rd_sliceN rfl rfl Tryz.underlying22 sz5 (bd_none _ _) (bd_some rfl (show _=((0:Nat):Int) by omega)) (by (omega)) (by (omega))) ?_;refine jU 1 ?_
 refine jqe (e_appZ (F:=fun _=>.top) rfl rfl rfl (show _=((n:Nat):Int) by omega) (by (omega)) Tryz.underlying22 Tryz.underlying3 sz5 (by decide) zr5 by5 (by (omega)) (by (omega)) rfl rfl rfl (fun p1=>?_))
 refine jU 31 ?_;refine jq (jrso (hl:=(bd_none _ _)) (hu:=(bd_some rfl (show _=((0:Nat):Int) by omega)))) ?_;refine jU 851 ?_
 skip
 refine jU 70005116 ?_
 exact end_O 0 (.inl rfl) (res_1 rfl (arv_tmp rfl)) rfl rfl (Nat.le_refl _) (fun _=>rfl) (fun j hj=>absurd hj (Nat.not_lt_zero j))
theorem concat8_ac {gs:List Nat} (ls:List (List UInt8)) (h:sumL ls≤10000000000) (hl:ls.length≤1000000):ACp gs Tryz.prog 201 [lbC ls] (bsC ls.flatten):=by
 refine ac_of 36 Tryz.func201 rfl rfl rfl (fun al w0 F0 St0=>?_)
 refine jU 20513167516516 ?_;refine l_loop (α:=Nat) [3,5,11,12,13,14,15,16,17,18,19,20,21,22] (fun i=>[(3,.c (.int .i64 (sumL (ls.take i):Nat))),(11,.c (.int .i64 (i:Nat)))]) (fun _=>[]) (fun i=>i≤ls.length) (fun i=>ls.length-i) (0) ?_ (fun _=>rfl) ?_ ?_ ?_
 ·exact Nat.zero_le _
 ·exact .cons cZ (.cons cZ .nil)
 ·(repeat (exact HEnt.nil))
 ·rintro i (hi:i≤ls.length)
  refine jU 7526 ?_;refine jcc (fun h493=>?_) fun h493=>?_
  ·refine jU 51607006207810 ?_
   have hs1:=sumL_take (ls:=ls) (i:=i) (by omega)
   have hs2:=sumL_le ls (i+1)
   refine jU 52165193116 ?_;refine jcc (fun h495=>?_) fun h495=>?_
   ·exfalso;omega
   refine jU 8519200840010 ?_
   refine jlend (i+1) ?_ ?_ (h5:=?_)
   ·show i+1≤ls.length;omega
   ·omega
   ·exact .cons (cI (by rw [sumL_take (by omega)];omega)) (.cons (cI (by omega)) .nil)
  refine jU 84000200020006000 ?_
  have hs3:=sumL_le ls i
  refine jU 16 ?_
  refine jqe (jecO (grow8_ac (sumL (ls.take i)) (by omega)) (fun p1=>?_))
  refine jU 2051316751 ?_;refine l_loop (α:=Nat×Option Nat) [6,8,27,28,29,30,31,32,33,34] (fun (j,g)=>[(6,.os 0 g 0 ((ls.take j).flatten).length 1),(27,.c (.int .i64 (j:Nat)))]) (fun (j,g)=>[(g,.blk ((ls.take j).flatten).length (byF (ls.take j).flatten))]) (fun j=>j.1≤ls.length) (fun j=>ls.length-j.1) ((0,p1)) ?_ (fun _=>rfl) ?_ ?_ ?_
  ·exact Nat.zero_le _
  ·exact .cons cZ (.cons cZ .nil)
  ·exact .blk rfl (fun j hj=>absurd hj (Nat.not_lt_zero j)) .nil
  ·rintro ⟨j,g'⟩ (hj:j≤ls.length)
   refine jU 7526 ?_;refine jcc (fun h503=>?_) fun h503=>?_
   rotate_left
   ·refine jU 511684000200020006000 ?_;refine jE (freeze 0 rfl) ?_;refine jE (thawB 2 ((ls.take j).flatten) rfl rfl (by rfl) rfl) ?_
    refine jR (jrt (hv:=?_))
    refine CEnt.bs ?_
    rw [List.take_of_length_le (by omega)]
   refine jU 51607006207810 ?_
   have hf1:=sumL_take (ls:=ls) (i:=j) (by omega)
   have hf2:=sumL_le ls (j+1)
   have hf3:=flat_len (ls.take j)
   refine jU 11200 ?_
   refine jqm (m_appendB rfl rfl rfl (Nat.le_refl _) (fun _ _=>cZ) (src_rs rfl) rfl (fun j hj=>by simp only [Nat.div_one];exact cZ) Tryz.underlying22 nu22 sz5 zr5 by5 rfl (by omega) (fun j hj=>rfl) rfl rfl (fun p2=>?_))
   refine jU 8519200840051 ?_
   refine jlend ((j+1,p2)) ?_ ?_ (h5:=?_) (h7:=?_)
   ·show j+1≤ls.length;omega
   ·show ls.length-(j+1)<ls.length-j;omega
   ·simp only [flat_take (show j<ls.length by omega)]
    exact .cons cZ (.cons (cI (by omega)) .nil)
   ·simp only [flat_take (show j<ls.length by omega)]
    exact .same .nil
end
end Am
end Go.Proofs.YthlpfjnkieaeeaaGreatDoor
namespace Go.Proofs.YthlpfjnkieaeeaaGreatDoor
set_option linter.unusedVariables false
open Go.RowKit

def marks:List UInt8:=[201,202,203,204,205,206]
def Marked (w:World) (v:Value) (l:List UInt8):Prop :=
 ∃ g,v=.slice (some ⟨g,0,none⟩) l.length (l.length+6)∧l.length+6≤9223372036854775807∧∀ i,i<l.length+6→w.cell? ⟨g,i,none⟩=some (.int .u8 ((l++marks).getD i 0).toNat)
def MarkedAt (w:World) (g:Nat) (v:Value) (l:List UInt8):Prop :=
 v=.slice (some ⟨g,0,none⟩) l.length (l.length+6)∧l.length+6≤9223372036854775807∧∀ i,i<l.length+6→w.cell? ⟨g,i,none⟩=some (.int .u8 ((l++marks).getD i 0).toNat)
theorem Marked.below {a b:World} {v:Value} {l:List UInt8} (h:Marked a v l) (k:Below a.heap.size a b):Marked b v l:=by
 obtain ⟨g,rfl,h1,h2⟩:=h
 exact ⟨g,rfl,h1,fun i hi=>below_cell k (h2 i hi)⟩
theorem Marked.bs {w:World} {v:Value} {l:List UInt8} (h:Marked w v l):Bs w v l:=by
 obtain ⟨g,rfl,h1,h2⟩:=h
 refine Bs.of_cells (by omega) (by omega) fun i hi=>?_
 rw [Nat.zero_add,h2 i (by omega)]
 simp [List.getD,List.getElem?_append_left hi]

theorem Bs.parts {w:World} {v:Value} {l:List UInt8} (h:Bs w v l) :
  ∃ ao cap,v=.slice ao l.length cap∧l.length≤cap∧cap≤9223372036854775807∧(ao=none→l.length=0∧cap=0) ∧
   ∀ ad,ao=some ad→∀ j u,(l.map fun c=>Value.int .u8 c.toNat)[j]?=some u→w.cell? (ad.add j)=some u:=by
 obtain ⟨ao,cap,rfl,h1,h2,h3,h4⟩:=h
 refine ⟨ao,cap,rfl,h1,h2,fun h=>⟨by have:=h3 h;omega,h3 h⟩,?_⟩
 intro ad had j u hu
 obtain ⟨hs,hc⟩:=h4 ad had
 obtain ⟨b,o,sp⟩:=ad
 have hj:j<l.length:=by
  have:=(List.getElem?_eq_some_iff.1 hu).1
  simpa using this
 have hs:=hs (by omega)
 simp only at hs
 subst hs
 rw [Addr.add_lit,hc j hj]
 rw [List.getElem?_map,List.getElem?_eq_getElem hj] at hu
 simpa [List.getD,hj] using hu

end Go.Proofs.YthlpfjnkieaeeaaGreatDoor
namespace Go.Proofs.YthlpfjnkieaeeaaGreatDoor
set_option linter.unusedVariables false
namespace Am
open Go.RowKit
section
variable {gs:List Nat} [Ok9 gs]
def markSV (l:List UInt8):SV where
 p St w v:=∃ g,St g∧MarkedAt w g v l
 st:=fun {St St' w w' v} hs hb ⟨g,h1,h2,h3,h4⟩=>⟨g,hs g h1,h2,h3,fun i hi=>cell_keep (fun cur t z hc=>hb g cur t z h1 hc) (h4 i hi)⟩
 one:=fun {St w v} ⟨g,h1,h2,h3,h4⟩=>by rw [h2];exact ⟨rfl,rfl⟩
def markC (l:List UInt8):CV:=.pv (markSV l)
theorem CEnt.mark {l:List UInt8}:CEnt (markC l) (bsC l):=fun al St w v ⟨g,h1,h2,h3,h4⟩=>by
 refine ⟨_,_,h2,by omega,h3,(fun h=>by cases h),fun a ha hn=>?_⟩
 cases ha
 refine ⟨rfl,h1,fun i j hi hj=>⟨_,by rw [show 0+(i * 1+j)=i by omega];exact h4 i (by omega),?_⟩⟩
 show _=_
 simp [List.getD,List.getElem?_append_left hi]
end
section
variable {gs:List Nat} [Ok9 gs]

def putE (tag:Int) (body:List UInt8):Nat:=if knownM tag=false then 5 else if 65530<body.length then 3 else 0
theorem known_bd {t:Int} (h:knownM t=true):0≤t∧t<256:=by
 unfold knownM madeM at h
 simp at h
 omega
theorem tput_ac (tag:Int) (body:List UInt8) (hb:body.length≤1000000):ACp gs Tryz.prog 199 [.agg 2 (fl [.c (.int .i64 tag),bsC body])] (.tup 2 (fl [bsC (if putE tag body=0 then putL tag body else []),.err (putE tag body)])):=by
 refine ac_of 28 Tryz.func199 rfl rfl rfl (fun al w0 F0 St0=>?_)
 refine jcr ?_
 refine jqe (jebx 2 fun p1=>?_)
 refine jU 50906207511 ?_
 refine jqe (jecP (known_ac _) ?_)
 refine jU 5130 ?_;refine jcc (fun h62=>?_) fun h62=>?_
 ·refine jcs ?_;refine jcd (.rd 0 (.rd 1 (.rd 2 .done))) ?_;refine jyq (jrde 4) ?_;refine jU 8807070 ?_
  refine jR (jbr (jtr (jrt (hv:=?_))))
  have hk:knownM tag=false:=by simpa using h62
  have he:putE tag body=5:=by unfold putE;rw [if_pos hk]
  rw [he];exact cT cN cZ
 refine jU 5123501006 ?_;refine jcc (fun h64=>?_) fun h64=>?_
 ·refine jcs ?_;refine jcd (.rd 0 (.rd 1 (.rd 2 .done))) ?_;refine jyq (jrde 2) ?_;refine jU 8807070 ?_
  refine jR (jbr (jtr (jrt (hv:=?_))))
  have hk:knownM tag=true:=by simpa using h62
  have he:putE tag body=3:=by unfold putE;rw [if_neg (by rw [hk];exact Bool.noConfusion),if_pos (by omega)]
  rw [he];exact cT cN cZ
 refine jU 7840010 ?_
 have hk:knownM tag=true:=by simpa using h62
 have hkb:=known_bd hk
 have he:putE tag body=0:=by unfold putE;rw [if_neg (by rw [hk];exact Bool.noConfusion),if_neg (by omega)]
 have hlb:=lenL_bd body.length
 refine jcd (.rd 0 (.rd 1 (.rd 2 (.rd 4 (.rd 5 (.rd 6 (.rd 8 (.rd 9 (.two 3 (.one 7 (.one 10 (.one 11 (.rd 12 (.rd 13 .done))))) 7 (.one 3 (.one 10 (.one 11 (.rd 12 (.rd 13 .done)))))))))))))) ?_;refine jU 10000900000 ?_;refine jyq (jrv .i64 .u8) ?_;refine jU 10000800000020000100008000000 ?_;refine jytwo ?_ ?_
 ·refine jye (jebl 1 1 zr5 fun p2=>?_)
  refine jye (jecP (length_ac body.length (by omega)) ?_)
  refine x_ent (freeze 1 rfl) ?_;refine x_ent (thawBL 19 [UInt8.ofNat tag.toNat] rfl rfl rfl rfl (.cons (cI (by rw [UInt8.toNat_ofNat'];omega)) .nil)) ?_
  refine jye (jebl 3 1 zr22 fun p3=>?_)
  refine x_ent (freeze 2 rfl) ?_;refine x_ent (thawLB 26 [[UInt8.ofNat tag.toNat],lenL body.length,body] rfl rfl rfl rfl (.cons cZ (.cons cZ (.cons cZ .nil)))) ?_
  refine jye (jecP (concat8_ac [[UInt8.ofNat tag.toNat],lenL body.length,body] (by simp [sumL];omega) (by simp)) ?_)
  refine jU 8807070 ?_
  refine jR (jrt (hv:=cT (CEnt.bs (by rw [he,if_pos rfl];simp [putL])) (CEnt.nilE he)))
 ·refine jye (jecP (length_ac body.length (by omega)) ?_)
  refine jye (jebl 1 1 zr5 fun p2=>?_)
  refine x_ent (freeze 1 rfl) ?_;refine x_ent (thawBL 19 [UInt8.ofNat tag.toNat] rfl rfl rfl rfl (.cons (cI (by rw [UInt8.toNat_ofNat'];omega)) .nil)) ?_
  refine jye (jebl 3 1 zr22 fun p3=>?_)
  refine x_ent (freeze 2 rfl) ?_;refine x_ent (thawLB 26 [[UInt8.ofNat tag.toNat],lenL body.length,body] rfl rfl rfl rfl (.cons cZ (.cons cZ (.cons cZ .nil)))) ?_
  refine jye (jecP (concat8_ac [[UInt8.ofNat tag.toNat],lenL body.length,body] (by simp [sumL];omega) (by simp)) ?_)
  refine jU 8807070 ?_
  refine jR (jrt (hv:=cT (CEnt.bs (by rw [he,if_pos rfl];simp [putL])) (CEnt.nilE he)))
end
section
theorem cmp8_swap (a b:UInt8):cmp8 b a=- cmp8 a b:=by
 unfold cmp8
 rcases Nat.lt_trichotomy a.toNat b.toNat with h|h|h
 ·rw [if_neg (by omega),if_pos h,if_pos h];rfl
 ·rw [if_neg (by omega),if_neg (by omega),if_neg (by omega),if_neg (by omega)];rfl
 ·rw [if_pos h,if_neg (by omega),if_pos h]
theorem cmp8_zero {a b:UInt8} (h:cmp8 a b=0):a=b:=by
 unfold cmp8 at h
 split at h
 ·omega
 ·split at h
  ·omega
  ·exact UInt8.toNat_inj.1 (by omega)
theorem cmp8_iff (a b:UInt8):(cmp8 a b<0↔a.toNat<b.toNat)∧(cmp8 a b≤0↔a.toNat≤b.toNat):=by
 unfold cmp8
 split
 ·omega
 ·split <;> omega
theorem cmpL_swap:∀ l r:List UInt8,cmpL r l=- cmpL l r
 | [],[]=>rfl
 | [],_::_=>rfl
 | _::_,[]=>rfl
 | a::l,b::r=>by
  have h:=cmp8_swap a b
  have ih:=cmpL_swap l r
  rw [cmpL,cmpL]
  by_cases e:cmp8 a b=0
  ·rw [if_neg (by omega),if_neg (by omega),ih]
  ·rw [if_pos (by omega),if_pos e,h]
theorem cmpL_zero:∀ {l r:List UInt8},cmpL l r=0→l=r
 | [],[],_=>rfl
 | [],_::_,h=>by simp [cmpL] at h
 | _::_,[],h=>by simp [cmpL] at h
 | a::l,b::r,h=>by
  rw [cmpL] at h
  by_cases e:cmp8 a b=0
  ·rw [if_neg (fun x=>x e)] at h
   rw [cmp8_zero e,cmpL_zero h]
  ·rw [if_pos e] at h;exact absurd h e
theorem cmpL_trans:∀ {a b c:List UInt8},cmpL a b≤0→cmpL b c≤0→cmpL a c≤0
 | [],_,[],_,_=>Int.le_refl 0
 | [],_,_::_,_,_=>by show (-1:Int)≤0;decide
 | _::_,[],_,h,_=>by simp [cmpL] at h
 | _::_,_::_,[],_,h=>by simp [cmpL] at h
 | x::a,y::b,z::c,h1,h2=>by
  rw [cmpL] at h1 h2 ⊢
  have k1:=cmp8_iff x y;have k2:=cmp8_iff y z;have k3:=cmp8_iff x z
  by_cases e1:cmp8 x y=0
  ·have e:=cmp8_zero e1
   subst e
   rw [if_neg (fun q=>q e1)] at h1
   by_cases e2:cmp8 x z=0
   ·rw [if_neg (fun q=>q e2)] at h2 ⊢
    exact cmpL_trans h1 h2
   ·rw [if_pos e2] at h2 ⊢;exact h2
  ·rw [if_pos e1] at h1
   by_cases e2:cmp8 y z=0
   ·have e:=cmp8_zero e2
    subst e
    rw [if_pos e1];exact h1
   ·rw [if_pos e2] at h2
    have e3:cmp8 x z≠0:=fun e=>by
     have:=cmp8_zero e
     subst this
     have:=cmp8_swap x y
     omega
    rw [if_pos e3]
    omega
theorem cmpL_self (l:List UInt8):cmpL l l=0:=by have:=cmpL_swap l l;omega
theorem cmpL_swo {α:Type} (L:α→List UInt8):Go.Sort.SWO (fun x y:α=>decide (cmpL (L x) (L y)<0)) where
 irrefl:=fun x=>by rw [cmpL_self];rfl
 trans:=fun x y z h1 h2=>by
  simp only [decide_eq_true_eq] at h1 h2 ⊢
  have h3:=cmpL_trans (a:=L x) (b:=L y) (c:=L z) (by omega) (by omega)
  by_cases e:cmpL (L x) (L z)=0
  ·have:=cmpL_zero e
   have h4:=cmpL_swap (L y) (L z)
   rw [this] at h1
   omega
  ·omega
 ntrans:=fun x y z h1 h2=>by
  simp only [decide_eq_false_iff_not,Int.not_lt] at h1 h2 ⊢
  have s1:=cmpL_swap (L x) (L y);have s2:=cmpL_swap (L y) (L z);have s3:=cmpL_swap (L x) (L z)
  have h3:=cmpL_trans (a:=L z) (b:=L y) (c:=L x) (by omega) (by omega)
  omega
def leL (a b:List UInt8):Bool:=decide (cmpL a b≤0)
theorem leL_total (a b:List UInt8):(leL a b || leL b a)=true:=by
 have:=cmpL_swap a b
 unfold leL
 by_cases h:cmpL a b≤0
 ·simp [h]
 ·have:cmpL b a≤0:=by omega
  simp [this]
theorem leL_trans (a b c:List UInt8) (h1:leL a b=true) (h2:leL b c=true):leL a c=true:=by
 unfold leL at h1 h2 ⊢
 simp only [decide_eq_true_eq] at h1 h2 ⊢
 exact cmpL_trans h1 h2
theorem leL_anti {a b:List UInt8} (h1:leL a b=true) (h2:leL b a=true):a=b:=by
 unfold leL at h1 h2
 simp only [decide_eq_true_eq] at h1 h2
 have:=cmpL_swap a b
 exact cmpL_zero (by omega)
def sortL (ls:List (List UInt8)):List (List UInt8):=ls.mergeSort leL
theorem sortL_perm (ls:List (List UInt8)):(sortL ls).Perm ls:=List.mergeSort_perm ls leL
theorem sortL_sorted (ls:List (List UInt8)):(sortL ls).Pairwise fun a b=>leL a b=true:=List.pairwise_mergeSort leL_trans leL_total ls
theorem sorted_eq:∀ {l r:List (List UInt8)},l.Perm r→(l.Pairwise fun a b=>leL a b=true)→(r.Pairwise fun a b=>leL a b=true)→l=r
 | [],r,hp,_,_=>(List.nil_perm.1 hp).symm
 | a::l,[],hp,_,_=>absurd hp.symm.nil_eq (by simp)
 | a::l,b::r,hp,h1,h2=>by
  have ha:=List.pairwise_cons.1 h1
  have hb:=List.pairwise_cons.1 h2
  have e:a=b:=by
   have m1:a ∈ b::r:=hp.subset (List.mem_cons_self ..)
   have m2:b ∈ a::l:=hp.symm.subset (List.mem_cons_self ..)
   rcases List.mem_cons.1 m1 with h|h
   ·exact h
   ·rcases List.mem_cons.1 m2 with k|k
    ·exact k.symm
    ·exact leL_anti (ha.1 b k) (hb.1 a h)
  subst e
  rw [sorted_eq (List.perm_cons a |>.1 hp) ha.2 hb.2]
theorem sortL_of {l r:List (List UInt8)} (hp:l.Perm r) (h:l.Pairwise fun a b=>leL a b=true):l=sortL r:=sorted_eq (hp.trans (sortL_perm r).symm) h (sortL_sorted r)
theorem sortL_length (ls:List (List UInt8)):(sortL ls).length=ls.length:=(sortL_perm ls).length_eq
end
section
open Go.RowKit Go.Lib
def bt (l:List UInt8) (i:Nat):Nat:=(l.getD i 0).toNat
theorem bt_lt (l:List UInt8) (i:Nat):bt l i<256:=UInt8.toNat_lt _
def dec1 (l:List UInt8):Nat×Nat:=Lib.decodeN l.length (bt l 0) (bt l 1) (bt l 2) (bt l 3)
theorem ba_bang (l:List UInt8) (i:Nat):((⟨l.toArray⟩:ByteArray).get! i).toNat=bt l i:=by
 show (l.toArray[i]!).toNat=_
 simp [bt,List.getD]
 rfl
theorem decodeL_dec1 (l:List UInt8):decodeL l=dec1 l:=by
 unfold decodeL dec1
 rw [Lib.decode_at,ba_bang,ba_bang,ba_bang,ba_bang]
 rfl
theorem dec1_width (l:List UInt8):1≤(dec1 l).2∧(dec1 l).2≤4:=by
 unfold dec1 Lib.decodeN
 repeat' split
 all_goals simp
def badR (c:Nat):Bool:=decide (c<32) || decide (c=127)
def plainGo:Nat→List UInt8→Bool
 | 0,_=>true
 | n+1,l=>if l=[] then true else if ((dec1 l).1=65533∧(dec1 l).2=1)∨badR (dec1 l).1=true then false else plainGo n (l.drop (dec1 l).2)
def plainM (l:List UInt8):Bool:=plainGo l.length l
def noBad:Nat→List UInt8→Bool
 | 0,_=>true
 | n+1,l=>if l=[] then true else if badR (dec1 l).1=true then false else noBad n (l.drop (dec1 l).2)
theorem plain_two:∀ (n:Nat) (l:List UInt8),plainGo n l=(noBad n l && validGoD n l)
 | 0,l=>rfl
 | n+1,l=>by
  rw [plainGo,noBad,validGoD,plain_two n,decodeL_dec1]
  by_cases h:l=[]
  ·simp [h]
  ·rw [if_neg h,if_neg h,if_neg h]
   by_cases h1:badR (dec1 l).1=true
   ·simp [h1]
   ·by_cases h2:(dec1 l).1=65533∧(dec1 l).2=1
    ·simp [h2]
    ·rw [if_neg (by simp [h1];intro h3 h4;exact h2 ⟨h3,h4⟩),if_neg h1,if_neg h2]
theorem fuel_plain:∀ (n m:Nat) (l:List UInt8),l.length≤n→l.length≤m→plainGo n l=plainGo m l
 | 0,m,l,h,_=>by
  have:l=[]:=List.length_eq_zero_iff.1 (by omega)
  subst this
  cases m <;> simp [plainGo]
 | n+1,0,l,_,h=>by
  have:l=[]:=List.length_eq_zero_iff.1 (by omega)
  subst this
  simp [plainGo]
 | n+1,m+1,l,h1,h2=>by
  rw [plainGo,plainGo]
  by_cases h:l=[]
  ·simp [h]
  ·have hw:=(dec1_width l).1
   have hp:=List.length_pos_iff.2 h
   rw [fuel_plain n m _ (by simp;omega) (by simp;omega)]
theorem plainM_step {l:List UInt8} (h:l≠[]):plainM l=if ((dec1 l).1=65533∧(dec1 l).2=1)∨badR (dec1 l).1=true then false else plainM (l.drop (dec1 l).2):=by
 have hp:=List.length_pos_iff.2 h
 have hw:=(dec1_width l).1
 unfold plainM
 obtain ⟨n,hn⟩:∃ n,l.length=n+1:=⟨l.length-1,by omega⟩
 rw [hn,plainGo,if_neg h,fuel_plain n (l.drop (dec1 l).2).length _ (by simp;omega) (Nat.le_refl _)]
theorem noBad_step {n:Nat} {l:List UInt8} (h:l≠[]):noBad (n+1) l=if badR (dec1 l).1=true then false else noBad n (l.drop (dec1 l).2):=by rw [noBad,if_neg h]
theorem noBad_fuel:∀ (n m:Nat) (l:List UInt8),l.length≤n→l.length≤m→noBad n l=noBad m l
 | 0,m,l,h,_=>by
  have:l=[]:=List.length_eq_zero_iff.1 (by omega)
  subst this
  cases m <;> simp [noBad]
 | n+1,0,l,_,h=>by
  have:l=[]:=List.length_eq_zero_iff.1 (by omega)
  subst this
  simp [noBad]
 | n+1,m+1,l,h1,h2=>by
  rw [noBad,noBad]
  by_cases h:l=[]
  ·simp [h]
  ·have hw:=(dec1_width l).1
   have hp:=List.length_pos_iff.2 h
   rw [noBad_fuel n m _ (by simp;omega) (by simp;omega)]
def noBadM (l:List UInt8):Bool:=noBad l.length l
theorem noBadM_step {l:List UInt8} (h:l≠[]):noBadM l=if badR (dec1 l).1=true then false else noBadM (l.drop (dec1 l).2):=by
 have hp:=List.length_pos_iff.2 h
 have hw:=(dec1_width l).1
 unfold noBadM
 obtain ⟨n,hn⟩:∃ n,l.length=n+1:=⟨l.length-1,by omega⟩
 rw [hn,noBad_step h,noBad_fuel n (l.drop (dec1 l).2).length _ (by simp;omega) (Nat.le_refl _)]
theorem plainM_two (l:List UInt8):plainM l=(noBadM l && validD l):=plain_two _ _
theorem ref_ascii {l:List UInt8} (h:l≠[]) (h0:bt l 0<128):plainM l=if bt l 0<32∨bt l 0=127 then false else plainM (l.drop 1):=by
 have e:dec1 l=(bt l 0,1):=by unfold dec1 Lib.decodeN;rw [if_pos h0]
 rw [plainM_step h,e]
 simp only [badR,Bool.or_eq_true,decide_eq_true_eq]
 by_cases h1:bt l 0<32∨bt l 0=127
 ·rw [if_pos (.inr h1),if_pos h1]
 ·rw [if_neg h1,if_neg (by omega)]
theorem ref_bad {l:List UInt8} (h:l≠[]) (hd:dec1 l=(65533,1)):plainM l=false:=by
 rw [plainM_step h,hd,if_pos (.inl ⟨rfl,rfl⟩)]
theorem ref_good {l:List UInt8} (h:l≠[]) {c w:Nat} (hd:dec1 l=(c,w)) (hc:128≤c) (hw:2≤w):plainM l=plainM (l.drop w):=by
 rw [plainM_step h,hd,if_neg (by simp [badR];omega)]
theorem dec_head_bad {l:List UInt8} (h:128≤bt l 0) (h2:bt l 0<192∨248≤bt l 0):dec1 l=(65533,1):=by
 unfold dec1 Lib.decodeN
 rw [if_neg (by omega),if_neg (by omega),if_neg (by omega),if_neg (by omega)]
theorem dec_two {l:List UInt8} (h:192≤bt l 0) (h2:bt l 0<224):dec1 l=if l.length≤1∨bt l 1<128∨191<bt l 1∨(bt l 0-192) * 64+bt l 1-128<128 then (65533,1) else ((bt l 0-192) * 64+bt l 1-128,2):=by
 have:=bt_lt l 1
 unfold dec1 Lib.decodeN
 rw [if_neg (by omega)]
 by_cases h3:l.length≤1∨bt l 1<128∨191<bt l 1
 ·rw [if_neg (by omega),if_neg (by omega),if_neg (by omega),if_pos (by omega)]
 ·rw [if_pos (by omega)]
  have e:bt l 0 % 32 * 64+bt l 1 % 64=(bt l 0-192) * 64+bt l 1-128:=by omega
  rw [e]
  by_cases h4:(bt l 0-192) * 64+bt l 1-128<128
  ·rw [if_neg (by omega),if_pos (by omega)]
  ·rw [if_pos (by omega),if_neg (by omega)]
theorem dec_three {l:List UInt8} (h:224≤bt l 0) (h2:bt l 0<240):dec1 l=if l.length≤2∨(bt l 1<128∨191<bt l 1)∨(bt l 2<128∨191<bt l 2)∨((bt l 0-224) * 64+bt l 1-128) * 64+bt l 2-128<2048∨(55296≤((bt l 0-224) * 64+bt l 1-128) * 64+bt l 2-128∧((bt l 0-224) * 64+bt l 1-128) * 64+bt l 2-128<57344) then (65533,1) else (((bt l 0-224) * 64+bt l 1-128) * 64+bt l 2-128,3):=by
 have:=bt_lt l 1
 have:=bt_lt l 2
 unfold dec1 Lib.decodeN
 rw [if_neg (by omega),if_neg (by omega)]
 by_cases h3:l.length≤2∨(bt l 1<128∨191<bt l 1)∨(bt l 2<128∨191<bt l 2)
 ·rw [if_neg (by omega),if_neg (by omega),if_pos (by omega)]
 ·rw [if_pos (by omega)]
  have e:bt l 0 % 16 * 4096+bt l 1 % 64 * 64+bt l 2 % 64=((bt l 0-224) * 64+bt l 1-128) * 64+bt l 2-128:=by omega
  rw [e]
  obtain ⟨c,hc⟩:∃ c,c=((bt l 0-224) * 64+bt l 1-128) * 64+bt l 2-128:=⟨_,rfl⟩
  have hlt:c≤65535:=by omega
  rw [← hc]
  by_cases h4:c<2048∨(55296≤c∧c<57344)
  ·rw [if_neg (by omega),if_pos (by omega)]
  ·rw [if_pos (by omega),if_neg (by omega)]
theorem dec_four {l:List UInt8} (h:240≤bt l 0) (h2:bt l 0<248):dec1 l=if l.length≤3∨(bt l 1<128∨191<bt l 1)∨(bt l 2<128∨191<bt l 2)∨(bt l 3<128∨191<bt l 3)∨(((bt l 0-240) * 64+bt l 1-128) * 64+bt l 2-128) * 64+bt l 3-128<65536∨1114111<(((bt l 0-240) * 64+bt l 1-128) * 64+bt l 2-128) * 64+bt l 3-128 then (65533,1) else ((((bt l 0-240) * 64+bt l 1-128) * 64+bt l 2-128) * 64+bt l 3-128,4):=by
 have:=bt_lt l 1
 have:=bt_lt l 2
 have:=bt_lt l 3
 unfold dec1 Lib.decodeN
 rw [if_neg (by omega),if_neg (by omega),if_neg (by omega)]
 by_cases h3:l.length≤3∨(bt l 1<128∨191<bt l 1)∨(bt l 2<128∨191<bt l 2)∨(bt l 3<128∨191<bt l 3)
 ·rw [if_neg (by omega),if_pos (by omega)]
 ·rw [if_pos (by omega)]
  have e:bt l 0 % 8 * 262144+bt l 1 % 64 * 4096+bt l 2 % 64 * 64+bt l 3 % 64=(((bt l 0-240) * 64+bt l 1-128) * 64+bt l 2-128) * 64+bt l 3-128:=by omega
  rw [e]
  obtain ⟨c,hc⟩:∃ c,c=(((bt l 0-240) * 64+bt l 1-128) * 64+bt l 2-128) * 64+bt l 3-128:=⟨_,rfl⟩
  rw [← hc]
  by_cases h4:c<65536∨1114111<c
  ·rw [if_neg (by omega),if_pos (by omega)]
  ·rw [if_pos (by omega),if_neg (by omega)]
def askedM (l:List UInt8) (most:Int):Nat:=if l.length=0 then 2 else if most<l.length then 3 else if plainM l=false then 8 else 0
end
section
def rev8T:List UInt8:=[0,128,64,192,32,160,96,224,16,144,80,208,48,176,112,240,8,136,72,200,40,168,104,232,24,152,88,216,56,184,120,248,4,132,68,196,36,164,100,228,20,148,84,212,52,180,116,244,12,140,76,204,44,172,108,236,28,156,92,220,60,188,124,252,2,130,66,194,34,162,98,226,18,146,82,210,50,178,114,242,10,138,74,202,42,170,106,234,26,154,90,218,58,186,122,250,6,134,70,198,38,166,102,230,22,150,86,214,54,182,118,246,14,142,78,206,46,174,110,238,30,158,94,222,62,190,126,254,1,129,65,193,33,161,97,225,17,145,81,209,49,177,113,241,9,137,73,201,41,169,105,233,25,153,89,217,57,185,121,249,5,133,69,197,37,165,101,229,21,149,85,213,53,181,117,245,13,141,77,205,45,173,109,237,29,157,93,221,61,189,125,253,3,131,67,195,35,163,99,227,19,147,83,211,51,179,115,243,11,139,75,203,43,171,107,235,27,155,91,219,59,187,123,251,7,135,71,199,39,167,103,231,23,151,87,215,55,183,119,247,15,143,79,207,47,175,111,239,31,159,95,223,63,191,127,255]
def len8T:List UInt8:=[0,1,2,2,3,3,3,3,4,4,4,4,4,4,4,4,5,5,5,5,5,5,5,5,5,5,5,5,5,5,5,5,6,6,6,6,6,6,6,6,6,6,6,6,6,6,6,6,6,6,6,6,6,6,6,6,6,6,6,6,6,6,6,6,7,7,7,7,7,7,7,7,7,7,7,7,7,7,7,7,7,7,7,7,7,7,7,7,7,7,7,7,7,7,7,7,7,7,7,7,7,7,7,7,7,7,7,7,7,7,7,7,7,7,7,7,7,7,7,7,7,7,7,7,7,7,7,7,8,8,8,8,8,8,8,8,8,8,8,8,8,8,8,8,8,8,8,8,8,8,8,8,8,8,8,8,8,8,8,8,8,8,8,8,8,8,8,8,8,8,8,8,8,8,8,8,8,8,8,8,8,8,8,8,8,8,8,8,8,8,8,8,8,8,8,8,8,8,8,8,8,8,8,8,8,8,8,8,8,8,8,8,8,8,8,8,8,8,8,8,8,8,8,8,8,8,8,8,8,8,8,8,8,8,8,8,8,8,8,8,8,8,8,8,8,8,8,8,8,8,8,8,8,8,8,8]
def ntz8T:List UInt8:=[8,0,1,0,2,0,1,0,3,0,1,0,2,0,1,0,4,0,1,0,2,0,1,0,3,0,1,0,2,0,1,0,5,0,1,0,2,0,1,0,3,0,1,0,2,0,1,0,4,0,1,0,2,0,1,0,3,0,1,0,2,0,1,0,6,0,1,0,2,0,1,0,3,0,1,0,2,0,1,0,4,0,1,0,2,0,1,0,3,0,1,0,2,0,1,0,5,0,1,0,2,0,1,0,3,0,1,0,2,0,1,0,4,0,1,0,2,0,1,0,3,0,1,0,2,0,1,0,7,0,1,0,2,0,1,0,3,0,1,0,2,0,1,0,4,0,1,0,2,0,1,0,3,0,1,0,2,0,1,0,5,0,1,0,2,0,1,0,3,0,1,0,2,0,1,0,4,0,1,0,2,0,1,0,3,0,1,0,2,0,1,0,6,0,1,0,2,0,1,0,3,0,1,0,2,0,1,0,4,0,1,0,2,0,1,0,3,0,1,0,2,0,1,0,5,0,1,0,2,0,1,0,3,0,1,0,2,0,1,0,4,0,1,0,2,0,1,0,3,0,1,0,2,0,1,0]
def rev8 (n:Nat):Nat:=(List.range 8).foldl (fun a i=>a+n / 2 ^ i % 2 * 2 ^ (7-i)) 0
def len8 (n:Nat):Nat:=(List.range 8).foldl (fun a i=>if n / 2 ^ i % 2=1 then i+1 else a) 0
def ntz8 (n:Nat):Nat:=(List.range 8).foldr (fun i a=>if n / 2 ^ i % 2=1 then i else a) 8
theorem all_lt {n:Nat} {p:Nat→Bool} (h:(List.range n).all p=true) {i:Nat} (hi:i<n):p i=true:=List.all_eq_true.1 h i (List.mem_range.2 hi)
theorem len8_bd {i:Nat} (h:i<256):i<2 ^ len8 i∧len8 i≤8∧(len8 i=0∨2 ^ (len8 i-1)≤i):=by
 have:=all_lt (n:=256) (p:=fun i=>decide (i<2 ^ len8 i∧len8 i≤8∧(len8 i=0∨2 ^ (len8 i-1)≤i))) (by decide +kernel) h
 simpa using this
def IsBl (m n:Nat):Prop:=m<2 ^ n∧(n=0∨2 ^ (n-1)≤m)
def bl (m:Nat):Nat:=if 256≤m then 8+len8 (m / 256) else len8 m
theorem bl_is {m:Nat} (h:m<65536):IsBl m (bl m)∧bl m≤16:=by
 unfold bl
 split
 ·obtain ⟨h1,h2,h3⟩:=len8_bd (i:=m / 256) (by omega)
  refine ⟨⟨?_,?_⟩,by omega⟩
  ·rw [Nat.pow_add];omega
  ·right
   rcases h3 with h3|h3
   ·rw [h3] at h1;simp at h1;omega
   ·rw [show 8+len8 (m / 256)-1=8+(len8 (m / 256)-1) by
     have:len8 (m / 256)≠0:=fun h=>by rw [h] at h1;simp at h1;omega
     omega,Nat.pow_add]
    omega
 ·obtain ⟨h1,h2,h3⟩:=len8_bd (i:=m) (by omega)
  exact ⟨⟨h1,h3⟩,by omega⟩
def rev16 (x:Nat):Nat:=rev8 (x / 256)+256 * rev8 (x % 256)
def flagsL (m:Nat):List UInt8:=UInt8.ofNat ((8-bl m % 8) % 8)::(if bl m=0 then [] else if bl m≤8 then [UInt8.ofNat (rev8 (m % 256))] else [UInt8.ofNat (rev8 (m % 256)),UInt8.ofNat (rev8 (m / 256))])
def maskM (b:List UInt8):Nat×Nat :=
 if b.length=0 then (0,2) else
 if 8≤(b.getD 0 0).toNat∨3<b.length∨(b.length=1∧0<(b.getD 0 0).toNat) then (0,4) else
 if b.length=1 then (0,0) else
 if ntz8 (b.getD (b.length-1) 0).toNat≠(b.getD 0 0).toNat then (0,4) else
 let m:=rev8 (b.getD 1 0).toNat+256 * (if b.length=3 then rev8 (b.getD 2 0).toNat else 0)
 if 32768≤m then (0,1) else (m,0)
end
section
theorem flags_len {m:Nat} (h:m<65536):(flagsL m).length=1+(bl m+7) / 8:=by
 have:=(bl_is h).2
 unfold flagsL
 split
 ·rename_i e;rw [e];rfl
 ·split
  ·simp;omega
  ·simp;omega
def lo8 (M i:Nat):Nat:=M % 2 ^ (min i 8)
def hi8 (M i:Nat):Nat:=M / 256 % 2 ^ (i-8)
def gF (M n i j:Nat):Nat:=if j=0 then (8-n % 8) % 8 else if j=1 then rev8 (lo8 M i) else rev8 (hi8 M i)
end
end Am
end Go.Proofs.YthlpfjnkieaeeaaGreatDoor
namespace Go.Proofs.YthlpfjnkieaeeaaGreatDoor
open Go.RowKit

def byte (n:Int):UInt8:=UInt8.ofNat (n % 256).toNat
theorem byte_toNat (n:Int):((byte n).toNat:Int)=n % 256:=by
 have h0:0≤n % 256:=Int.emod_nonneg _ (by decide)
 have h1:n % 256<256:=Int.emod_lt_of_pos _ (by decide)
 have:(byte n).toNat=(n % 256).toNat:=by
  unfold byte
  rw [UInt8.toNat_ofNat']
  omega
 omega
def sh:Nat→Int→Int
 | 0,n=>n
 | k+1,n=>sh k n / 256
def digs (k:Nat) (n:Int):List UInt8:=(List.range k).map fun j=>byte (sh j n)
theorem digs_length (k:Nat) (n:Int):(digs k n).length=k:=by simp [digs]
theorem digs_succ (k:Nat) (n:Int):digs (k+1) n=digs k n++[byte (sh k n)]:=by simp [digs,List.range_succ]
theorem digs_get (k:Nat) (n:Int) (j:Nat) (h:j<k):(digs k n).getD j 0=byte (sh j n):=by simp [digs,List.getD,h]
def stp (j:Nat) (n:Int):Bool:=(sh (j+1) n == 0 && decide (sh j n % 256<128)) || (sh (j+1) n == -1 && decide (128≤sh j n % 256))
theorem stp_iff (j:Nat) (n:Int):stp j n=true↔-128≤sh j n∧sh j n<128:=by
 simp only [stp,sh,Bool.or_eq_true,Bool.and_eq_true,beq_iff_eq,decide_eq_true_eq]
 constructor
 ·intro h;omega
 ·intro h;omega
theorem stp_mono (j:Nat) (n:Int) (h:stp j n=true):stp (j+1) n=true:=by
 rw [stp_iff] at h ⊢
 simp only [sh]
 omega
theorem stp_mono' (n:Int) (j m:Nat) (hjm:j≤m) (h:stp j n=true):stp m n=true:=by
 induction m with
 | zero =>
   obtain rfl:j=0:=by omega
   exact h
 | succ m ih =>
  by_cases e:j=m+1
  ·subst e;exact h
  ·exact stp_mono m n (ih (by omega))
theorem stp_seven (n:Int) (h1:-9223372036854775808≤n) (h2:n≤9223372036854775807):stp 7 n=true:=by
 rw [stp_iff]
 simp only [sh]
 omega
def IsLen (n:Int) (k:Nat):Prop:=k≤7∧stp k n=true∧∀ j,j<k→stp j n=false
theorem IsLen.unique {n:Int} {k m:Nat} (h:IsLen n k) (g:IsLen n m):k=m:=by
 rcases Nat.lt_trichotomy k m with h1|h1|h1
 ·have:=g.2.2 k h1;rw [h.2.1] at this;cases this
 ·exact h1
 ·have:=h.2.2 m h1;rw [g.2.1] at this;cases this

def sgn (c:UInt8):Int:=if c.toNat<128 then c.toNat else (c.toNat:Int)-256
def valS (l:List UInt8):Int:=match l with
 | []=>0
 | c::r=>r.foldl (fun a b=>a * 256+b.toNat) (sgn c)
theorem valS_snoc (l:List UInt8) (hl:l≠[]) (c:UInt8):valS (l++[c])=valS l * 256+c.toNat:=by
 cases l with
 | nil=>exact absurd rfl hl
 | cons x r=>simp [valS,List.foldl_append]
theorem valS_bound (l:List UInt8):∀ m,l.length=m+1→-(128 * 256 ^ m)≤valS l∧valS l<128 * 256 ^ m:=by
 intro m
 induction m generalizing l with
 | zero =>
  intro h
  match l,h with
  | [c],_ =>
   have:=c.toNat_lt
   simp only [valS,List.foldl_nil,sgn]
   split <;> omega
 | succ m ih =>
  intro h
  have hne:l≠[]:=by intro e;subst e;simp at h
  have e:l=l.dropLast++[l.getLast hne]:=(List.dropLast_concat_getLast hne).symm
  have hl:l.dropLast.length=m+1:=by simp;omega
  have hd:l.dropLast≠[]:=by intro e;rw [e] at hl;simp at hl
  have:=ih l.dropLast hl
  have hc:=(l.getLast hne).toNat_lt
  rw [e,valS_snoc _ hd]
  have hp:(256:Int) ^ (m+1)=256 ^ m * 256:=Int.pow_succ _ _
  rw [hp]
  generalize (256:Int) ^ m=p at this ⊢
  omega
theorem valS_small (l:List UInt8) (h:l.length≤7):-36028797018963968≤valS l∧valS l<36028797018963968:=by
 match l,h with
 | [],_=>show -36028797018963968≤(0:Int)∧(0:Int)<36028797018963968;omega
 | c::r,h =>
  simp only [List.length_cons] at h
  have:=valS_bound (c::r) r.length rfl
  have hp:((256:Int) ^ r.length)≤256 ^ 6:=by
   have:r.length=0∨r.length=1∨r.length=2∨r.length=3∨r.length=4∨r.length=5∨r.length=6:=by omega
   rcases this with h|h|h|h|h|h|h <;> rw [h] <;> decide
  have e6:(256:Int) ^ 6=281474976710656:=by decide
  omega
theorem valS_digs (n:Int):∀ k,stp k n=true→valS (digs (k+1) n).reverse=n:=by
 intro k h
 have key:∀ j,j≤k→valS ((digs (k+1) n).reverse.take (j+1))=sh (k-j) n:=by
  intro j
  induction j with
  | zero =>
   intro _
   rw [digs_succ]
   simp only [List.reverse_append,List.reverse_cons,List.reverse_nil,List.nil_append,List.singleton_append,List.take_succ_cons,List.take_zero,valS,List.foldl_nil,sgn,Nat.sub_zero]
   rw [stp_iff] at h
   have:=byte_toNat (sh k n)
   split <;> omega
  | succ j ih =>
   intro hj
   have hlen:j+1<(digs (k+1) n).reverse.length:=by simp [digs_length];omega
   rw [List.take_succ_eq_append_getElem hlen,valS_snoc _ (by intro e;have:=congrArg List.length e;simp [digs_length] at this),ih (by omega)]
   have eg:(digs (k+1) n).reverse[j+1]=byte (sh (k-(j+1)) n):=by
    rw [List.getElem_reverse]
    have:=digs_get (k+1) n ((digs (k+1) n).length-1-(j+1)) (by rw [digs_length];omega)
    simp only [List.getD,digs_length] at this ⊢
    rw [List.getElem?_eq_getElem (by rw [digs_length];omega)] at this
    simp only [Option.getD_some] at this
    rw [show k-(j+1)=k+1-1-(j+1) by omega]
    exact this
   rw [eg,byte_toNat,show k-j=(k-(j+1))+1 by omega]
   simp only [sh]
   omega
 have:=key k (Nat.le_refl _)
 rw [List.take_of_length_le (by simp [digs_length])] at this
 simpa [sh] using this

def idle (l:List UInt8):Bool:=match l with
 | a::b::_=>(a.toNat == 0 && decide (b.toNat<128)) || (a.toNat == 255 && decide (128≤b.toNat))
 | _=>false
def getM (l:List UInt8):Int×Nat :=
 if l.length=0 then (0,2) else if idle l=true then (0,4) else if 8<l.length then (0,1) else (valS l,0)

theorem digs_rev_cons (k:Nat) (n:Int):(digs (k+2) n).reverse=byte (sh (k+1) n)::byte (sh k n)::(digs k n).reverse:=by
 rw [digs_succ,digs_succ]
 simp
theorem idle_digs (n:Int) (k:Nat) (h:stp (k+1) n=true):idle (digs (k+2) n).reverse=stp k n:=by
 rw [digs_rev_cons]
 rw [stp_iff] at h
 have e:=stp_iff k n
 rw [Bool.eq_iff_iff,e]
 simp only [idle,Bool.or_eq_true,Bool.and_eq_true,beq_iff_eq,decide_eq_true_eq]
 have h1:=byte_toNat (sh (k+1) n)
 have h2:=byte_toNat (sh k n)
 simp only [sh] at h h1 h2 ⊢
 omega
theorem getM_put (n:Int) (k:Nat) (h:IsLen n k):getM (digs (k+1) n).reverse=(n,0):=by
 have hi:idle (digs (k+1) n).reverse=false:=by
  cases k with
  | zero=>simp [digs,idle]
  | succ k=>rw [idle_digs n k h.2.1];exact h.2.2 k (by omega)
 have:=h.1
 simp [getM,digs_length,hi,valS_digs n k h.2.1]
 omega
theorem i64_join (m c:Int) (h1:-36028797018963968≤m) (h2:m<36028797018963968) (h3:0≤c) (h4:c<256):bits .or .i64 (m * 256) c=m * 256+c:=by
 show IntKind.i64.wrap ((BitVec.ofInt 64 (m * 256) ||| BitVec.ofInt 64 c).toNat:Int)=_
 rw [BitVec.toNat_or,BitVec.toNat_ofInt,BitVec.toNat_ofInt]
 have e1:(c % ((2 ^ 64:Nat):Int)).toNat=c.toNat:=by
  have:((2 ^ 64:Nat):Int)=18446744073709551616:=by decide
  rw [this];omega
 have e2:(m * 256 % ((2 ^ 64:Nat):Int)).toNat=(m * 256 % 18446744073709551616).toNat:=by
  have:((2 ^ 64:Nat):Int)=18446744073709551616:=by decide
  rw [this]
 rw [e1,e2,nat_join 8 _ _ (by omega) (by omega),IntKind.wrap_i64]
 omega
theorem digs_rev_get (n:Int) (k i:Nat) (h:i<k):(digs k n).reverse.getD i 0=byte (sh (k-1-i) n):=by
 have hl:i<(digs k n).length:=by rw [digs_length];exact h
 simp only [List.getD,List.getElem?_reverse hl,digs_length]
 have:=digs_get k n (k-1-i) (by omega)
 simpa [List.getD] using this
end Go.Proofs.YthlpfjnkieaeeaaGreatDoor
namespace Go.Proofs.YthlpfjnkieaeeaaGreatDoor
open Go.RowKit

def fig (d:Nat):UInt8:=byte (48+d:Nat)
def dec (n:Nat):List UInt8:=if n<10 then [fig n] else dec (n / 10)++[fig (n % 10)]
termination_by n

def isFig (c:UInt8):Bool:=decide (48≤c.toNat) && decide (c.toNat≤57)
def valD (l:List UInt8):Nat:=l.foldl (fun a c=>10 * a+(c.toNat-48)) 0
def figM (l:List UInt8):Nat×Nat:=if l.length=0∨18<l.length∨(1<l.length∧(l.getD 0 0).toNat=48)∨l.all isFig=false then (0,4) else (valD l,0)

theorem dec_small {n:Nat} (h:n<10):dec n=[fig n]:=by rw [dec,if_pos h]
theorem dec_big {n:Nat} (h:¬ n<10):dec n=dec (n / 10)++[fig (n % 10)]:=by rw [dec,if_neg h]
theorem fig_toNat (n:Nat) (h:n<10):(fig n).toNat=48+n:=by
 unfold fig
 have:=byte_toNat ((48+n:Nat):Int)
 omega
theorem valD_append (l:List UInt8) (c:UInt8):valD (l++[c])=10 * valD l+(c.toNat-48):=by simp [valD]

theorem dec_ind {p:Nat→Prop} (h0:∀ n,n<10→p n) (h1:∀ n,¬ n<10→p (n / 10)→p n) (n:Nat):p n:=by
 induction n using Nat.strongRecOn with
 | ind n ih =>
  by_cases h:n<10
  ·exact h0 n h
  ·exact h1 n h (ih _ (by omega))

theorem dec_pos (n:Nat):0<(dec n).length:=by
 by_cases h:n<10
 ·rw [dec_small h];simp
 ·rw [dec_big h];simp
theorem dec_figs (n:Nat):(dec n).all isFig=true:=by
 induction n using dec_ind with
 | h0 n h =>
  rw [dec_small h]
  have:=fig_toNat n h
  simp [isFig,this];omega
 | h1 n h ih =>
  rw [dec_big h,List.all_append,ih]
  have:=fig_toNat (n % 10) (by omega)
  simp [isFig,this];omega
theorem dec_val (n:Nat):valD (dec n)=n:=by
 induction n using dec_ind with
 | h0 n h =>
  rw [dec_small h]
  have:=fig_toNat n h
  simp [valD,this]
 | h1 n h ih =>
  rw [dec_big h,valD_append,ih]
  have:=fig_toNat (n % 10) (by omega)
  omega
theorem dec_head (n:Nat):1<(dec n).length→((dec n).getD 0 0).toNat≠48:=by
 induction n using dec_ind with
 | h0 n h=>rw [dec_small h];simp
 | h1 n h ih =>
  intro _
  rw [dec_big h]
  have hp:=dec_pos (n / 10)
  have e:(dec (n / 10)++[fig (n % 10)]).getD 0 0=(dec (n / 10)).getD 0 0:=by
   simp only [List.getD,List.getElem?_append_left hp]
  rw [e]
  by_cases hs:n / 10<10
  ·rw [dec_small hs]
   have:=fig_toNat (n / 10) hs
   simp only [List.getD,List.getElem?_cons_zero,Option.getD_some]
   omega
  ·apply ih
   rw [dec_big hs]
   have:=dec_pos (n / 10 / 10)
   simp
   omega
theorem dec_len (k:Nat):∀ n,n<10 ^ (k+1)→(dec n).length≤k+1:=by
 induction k with
 | zero=>intro n h;rw [dec_small (by simpa using h)];simp
 | succ k ih =>
  intro n h
  by_cases hs:n<10
  ·rw [dec_small hs];simp
  ·rw [dec_big hs]
   have:=ih (n / 10) (by rw [Nat.pow_succ] at h;omega)
   simp;omega
theorem snoc_ind {p:List UInt8→Prop} (h0:p []) (h1:∀ l c,p l→p (l++[c])) (l:List UInt8):p l:=by
 have h:∀ l:List UInt8,p l.reverse:=by
  intro l
  induction l with
  | nil=>exact h0
  | cons c l ih=>rw [List.reverse_cons];exact h1 _ _ ih
 have:=h l.reverse
 rwa [List.reverse_reverse] at this
theorem all_snoc {l:List UInt8} {c:UInt8} (h:(l++[c]).all isFig=true):l.all isFig=true∧48≤c.toNat∧c.toNat≤57:=by
 simp only [List.all_append,List.all_cons,List.all_nil,Bool.and_true,Bool.and_eq_true,isFig,decide_eq_true_eq] at h
 exact ⟨by simpa [isFig] using h.1,h.2⟩
theorem head_snoc {l:List UInt8} {c:UInt8} (h:0<l.length):(l++[c]).getD 0 0=l.getD 0 0:=by
 simp only [List.getD,List.getElem?_append_left h]
theorem valD_lt (l:List UInt8):l.all isFig=true→valD l<10 ^ l.length:=by
 induction l using snoc_ind with
 | h0=>intro _;simp [valD]
 | h1 l c ih =>
  intro h
  obtain ⟨h1,h2,h3⟩:=all_snoc h
  have:=ih h1
  rw [valD_append,List.length_append,List.length_singleton,Nat.pow_succ]
  omega
theorem valD_lt17 {l:List UInt8} (h:l.all isFig=true) (hl:l.length≤17):valD l<100000000000000000 :=
 Nat.lt_of_lt_of_le (valD_lt l h) (Nat.le_trans (Nat.pow_le_pow_right (by decide) hl) (by decide))
theorem valD_lt18 {l:List UInt8} (h:l.all isFig=true) (hl:l.length≤18):valD l<1000000000000000000 :=
 Nat.lt_of_lt_of_le (valD_lt l h) (Nat.le_trans (Nat.pow_le_pow_right (by decide) hl) (by decide))
theorem valD_pos (l:List UInt8):0<l.length→l.all isFig=true→(l.getD 0 0).toNat≠48→0<valD l:=by
 induction l using snoc_ind with
 | h0=>simp
 | h1 l c ih =>
  intro _ h hh
  obtain ⟨h1,h2,h3⟩:=all_snoc h
  rw [valD_append]
  by_cases hl:l=[]
  ·subst hl
   simp only [List.nil_append,List.getD,List.getElem?_cons_zero,Option.getD_some] at hh
   omega
  ·have hp:=List.length_pos_iff.2 hl
   rw [head_snoc hp] at hh
   have:=ih hp h1 hh
   omega
theorem fig_back {c:UInt8} (h2:48≤c.toNat):fig (c.toNat-48)=c:=by
 unfold fig
 apply UInt8.toNat_inj.1
 have:=byte_toNat ((48+(c.toNat-48):Nat):Int)
 have:=c.toNat_lt
 omega
theorem dec_valD (l:List UInt8):0<l.length→l.all isFig=true→(1<l.length→(l.getD 0 0).toNat≠48)→dec (valD l)=l:=by
 induction l using snoc_ind with
 | h0=>simp
 | h1 l c ih =>
  intro _ h hh
  obtain ⟨h1,h2,h3⟩:=all_snoc h
  rw [valD_append]
  by_cases hl:l=[]
  ·subst hl
   show dec (10 * 0+(c.toNat-48))=[c]
   rw [Nat.mul_zero,Nat.zero_add,dec_small (by omega),fig_back h2]
  ·have hp:=List.length_pos_iff.2 hl
   rw [head_snoc hp] at hh
   have h0:=hh (by simp;omega)
   have hv:=valD_pos l hp h1 h0
   rw [dec_big (by omega),show (10 * valD l+(c.toNat-48)) / 10=valD l by omega,show (10 * valD l+(c.toNat-48)) % 10=c.toNat-48 by omega,fig_back h2,ih hp h1 (fun _=>h0)]
theorem figM_dec {n:Nat} (h:n<1000000000000000000):figM (dec n)=(n,0):=by
 have h1:=dec_pos n
 have h2:=dec_len 17 n h
 have h3:=dec_head n
 unfold figM
 rw [if_neg,dec_val]
 rintro (h|h|⟨h,h'⟩|h)
 ·omega
 ·omega
 ·exact h3 h h'
 ·rw [dec_figs] at h;cases h
theorem figM_ref (l:List UInt8):figM l=if 1≤l.length∧l.length≤18∧l.all isFig=true∧dec (valD l)=l then (valD l,0) else (0,4):=by
 unfold figM
 split
 ·rename_i h
  rw [if_neg]
  rintro ⟨h1,h2,h3,h4⟩
  rcases h with h|h|⟨h,h'⟩|h
  ·omega
  ·omega
  ·rw [← h4] at h h'
   exact dec_head _ h h'
  ·rw [h3] at h;cases h
 ·rename_i h
  have h1:¬ l.length=0:=fun e=>h (.inl e)
  have h2:¬ 18<l.length:=fun e=>h (.inr (.inl e))
  have h3:l.all isFig=true:=by
   cases e:l.all isFig with
   | true=>rfl
   | false=>exact absurd (.inr (.inr (.inr e))) h
  have h4:1<l.length→(l.getD 0 0).toNat≠48:=fun a b=>h (.inr (.inr (.inl ⟨a,b⟩)))
  rw [if_pos ⟨by omega,by omega,h3,dec_valD l (by omega) h3 h4⟩]
theorem dec_step {m:Nat} (h:0<m) (o:List UInt8):(if m=0 then [] else dec m)++o.reverse=(if m / 10=0 then [] else dec (m / 10))++(o++[fig (m % 10)]).reverse:=by
 rw [if_neg (by omega),List.reverse_append,List.reverse_singleton,List.singleton_append]
 by_cases hs:m<10
 ·rw [dec_small hs,if_pos (by omega),show m % 10=m by omega];rfl
 ·rw [dec_big hs,if_neg (by omega),List.append_assoc];rfl
theorem dec_first (n:Nat):dec n=(if n / 10=0 then [] else dec (n / 10))++[fig (n % 10)].reverse:=by
 by_cases hs:n<10
 ·rw [dec_small hs,if_pos (by omega),show n % 10=n by omega];rfl
 ·rw [dec_big hs,if_neg (by omega)];rfl
theorem fig_int (n:Nat):((fig (n % 10)).toNat:Int)=48+(n:Int) % 10:=by
 have:=fig_toNat (n % 10) (by omega)
 omega
theorem take_snoc (l:List UInt8) (i:Nat) (h:i<l.length):l.take (i+1)=l.take i++[l.getD i 0]:=by
 rw [List.take_succ_eq_append_getElem h]
 simp [List.getD,List.getElem?_eq_getElem h]
theorem all_of_bad {l:List UInt8} {i:Nat} (hi:i<l.length) (h:isFig (l.getD i 0)=false):l.all isFig=false:=by
 cases e:l.all isFig with
 | false=>rfl
 | true =>
  rw [List.all_eq_true] at e
  have:=e (l.getD i 0) (by simp [List.getD,List.getElem?_eq_getElem hi])
  rw [h] at this
  cases this
end Go.Proofs.YthlpfjnkieaeeaaGreatDoor
