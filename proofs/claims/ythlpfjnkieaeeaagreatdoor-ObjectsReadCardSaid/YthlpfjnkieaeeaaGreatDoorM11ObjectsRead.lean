/- What the law leans on, part 11: W09p, W09q, W09r, P09s, ErrN, W08y, AmN, W09s, W09t, P19, W05r, P08k, P19b, P19c -/
import Derived.Test.YthlpfjnkieaeeaaGreatDoorM10ObjectsRead

set_option maxRecDepth 100000
namespace Go.Proofs.YthlpfjnkieaeeaaGreatDoor
set_option linter.unusedVariables false
namespace Am
open Go.RowKit
section
variable {gs:List Nat} [eN gs]

def sF (s:S3):Nat→CV:=fl [.c (.int .i64 s.1),au s.2.1,au s.2.2]
theorem KR (s:S3) (x:Int) (j:Nat) (hj:j<3):ab (mo (sF s) 0 [.c (.int .i64 x)] j) (sF (x,s.2.1,s.2.2) j):=by
 rcases j with _|_|_|j <;> exact cZ
theorem KP (s:S3) (x:List UInt8) (j:Nat) (hj:j<3):ab (mo (sF s) 1 [au x] j) (sF (s.1,x,s.2.2) j):=by
 rcases j with _|_|_|j <;> exact cZ
theorem KQ (s:S3) (x:List UInt8) (j:Nat) (hj:j<3):ab (mo (sF s) 2 [au x] j) (sF (s.1,s.2.1,x) j):=by
 rcases j with _|_|_|j <;> exact cZ
theorem mX {l:List P2} {i:Nat} (h:i<l.length):eH (l.take (i+1))=sT (eH (l.take i)) (l.getD i ([],[])):=by
 unfold eH
 rw [List.take_succ_eq_append_getElem h,List.foldl_append,qK h]
 rfl
theorem N5 (l:List P2) (hl:l.length≤1000000):bM gs Tryz.prog 190 [iw l] (.tup 2 (fl [lR (kJ l).1,.err (kJ l).2])):=by
 refine ai 52 Tryz.func190 fun al w0 F0 St0=>?_;refine cy ?_
 refine ak (bD (n:=3) nH rfl fun p1=>?_)
 refine jU 651 ?_
 refine ak (bD (n:=3) nH rfl fun p2=>?_)
 refine jU 205131675 ?_;refine aF (α:=Nat) [6,11,12,13,14,15,16,17,18,19,20,21,22,23,24,25,26,27,28,29,30,31,32,33,34,35] (fun i=>[(11,.c (.int .i64 (i:Nat)))]) (fun i=>[(p1,.blk 3 fun _=>.top),(p2,.blk 3 (sF (eH (l.take i))))]) (fun i=>i≤l.length) (fun i=>l.length-i) (0) ?_ (fun _=>rfl) ?_ ?_ ?_
 ·exact Nat.zero_le _
 ·exact .cons cZ .nil
 ·exact .blk rfl (fun _ _=>ab.top _) (.blk rfl (fun j hj=>by rcases j with _|_|_|j <;> first|exact cZ|omega) .nil)
 ·rintro i (hi:i≤l.length)
  refine jU 7526 ?_;refine aq (fun h51=>?_) fun h51=>?_
  rotate_left
  ·refine jU 84000200020006000 ?_
   have ei:l.take i=l:=List.take_of_length_le jO
   rw [ei]
   refine cy ?_;refine eL (aV 3) ?_
   refine ak (ap (xn (eH l)) ?_)
   refine jU 15000001675119009001 ?_;refine ay 43 (fun g62=>?_) fun g62=>?_
   ·refine jU 7900051000000004444 ?_;refine jI (.rd 0 (.rd 1 (.one 2 (.rd 3 .done)))) ?_;refine ig (ae (n:=3) rfl nH Av rfl rfl) ?_;refine ig (dy 8) ?_
    refine iL (ax 3 ?_)
    refine jU 8700000400000 ?_
    refine jR (ii (cX (hres:=bH rfl (bz 3) aG) (hv:=?_)))
    have hp:kJ l=(bA,9):=by
     unfold kJ
     refine if_neg fun hh=>?_
     simp_all
    rw [hp];exact cT (ab.agg3 cZ cZ cZ) cZ
   refine jU 11 ?_
   refine ak (ap (Gd (if bx (eH l)=true then aX (eH l) else []) l) ?_)
   refine jU 550030 ?_;refine aq (fun h62=>?_) fun h62=>?_
   ·refine iy ?_;refine jI (.rd 0 (.rd 1 (.one 2 (.rd 3 .done)))) ?_;refine ig (ae (n:=3) rfl nH Av rfl rfl) ?_;refine ig (dy 8) ?_
    refine iL (ax 3 ?_)
    refine jU 8700000400000 ?_
    refine jR (ii (cX (hres:=bH rfl (bz 3) aG) (hv:=?_)))
    have hp:kJ l=(bA,9):=by
     unfold kJ
     refine if_neg fun hh=>?_
     simp_all
    rw [hp];exact cT (ab.agg3 cZ cZ cZ) cZ
   refine jU 6810 ?_;refine eL (aV 3) ?_
   refine ar (ax 3 ?_)
   refine jU 51 ?_
   refine jR (cX (hres:=bH rfl (bz 3) aG) (hv:=?_))
   have hr:bx (eH l)=true:=by
    cases hb:bx (eH l) with
    | true=>rfl
    | false=>simp_all
   have ht:aX (eH l)=l:=by simp_all
   have hp:kJ l=(eH l,0):=by unfold kJ;rw [if_pos ⟨hr,ht⟩]
   rw [hp]
   exact cT (ab.agg3 cZ cZ cZ) ab.nil
  refine jU 7006207810 ?_;refine jq (gq 2) ?_
  refine ak (bD (n:=2) dH rfl fun p3=>?_)
  refine ar (ax 2 ?_)
  refine jU 51600006205509065 ?_;refine aq (fun h53=>?_) fun h53=>?_
  ·refine py 6 (.rd 1 (.rd 2 (.one 0 (.one 3 (.rd 4 (.rd 5 .done)))))) ?_;refine jU 100008000000 ?_
   refine kO (ap zH ?_)
   refine kO (ap (FV nk (l.getD i ([],[])).2) ?_)
   refine bV (DJ rfl rfl rfl ((sx (l.getD i ([],[])).2)) ((by rw [FX];exact gx (k:=.i64) (by show _∧_;have:=L3 (l.getD i ([],[])).2;omega)))) ?_;refine jU 80900000 ?_
   show cV _ _ _ _ _ _
   refine ar (ax 1 ?_)
   refine jU 851920084004005 ?_
   refine aw (i+1) ?_ ?_ (h5:=?_) (h7:=?_)
   ·show i+1≤l.length;omega
   ·show l.length-(i+1)<l.length-i;omega
   ·exact .cons (cI jO) .nil
   ·have ht:=mX (l:=l) (i:=i) jO
    unfold sT at ht
    rw [show mM=[49,46,51,46,57,57,57,57,46,49,46,49] from rfl,show pV=[49,46,51,46,57,57,57,57,46,49,46,50] from rfl,show mL=[49,46,51,46,57,57,57,57,46,49,46,51] from rfl] at ht
    first
    |(rw [if_pos h53] at ht;rw [ht];refine .same (.blk rfl (fun j hj=>?_) .nil);have:=KR (eH (l.take i)) (sx (l.getD i ([],[])).2) j hj;exact this)
    |(rw [if_neg h53,if_pos h55] at ht;rw [ht];exact .same (.blk rfl (fun j hj=>KP _ _ j hj) .nil))
    |(rw [if_neg h53,if_neg h55,if_pos h57] at ht;rw [ht];exact .same (.blk rfl (fun j hj=>KQ _ _ j hj) .nil))
    |(rw [if_neg h53,if_neg h55,if_neg h57] at ht;rw [ht];exact .same (.same .nil))
  refine jU 51600006 ?_;refine aq (fun h55=>?_) fun h55=>?_
  ·refine jU 10050100200 ?_
   refine ar (ax 1 ?_)
   refine jU 851920084004005 ?_
   refine aw (i+1) ?_ ?_ (h5:=?_) (h7:=?_)
   ·show i+1≤l.length;omega
   ·show l.length-(i+1)<l.length-i;omega
   ·exact .cons (cI jO) .nil
   ·have ht:=mX (l:=l) (i:=i) jO
    unfold sT at ht
    rw [show mM=[49,46,51,46,57,57,57,57,46,49,46,49] from rfl,show pV=[49,46,51,46,57,57,57,57,46,49,46,50] from rfl,show mL=[49,46,51,46,57,57,57,57,46,49,46,51] from rfl] at ht
    first
    |(rw [if_pos h53] at ht;rw [ht];refine .same (.blk rfl (fun j hj=>?_) .nil);have:=KR (eH (l.take i)) (sx (l.getD i ([],[])).2) j hj;exact this)
    |(rw [if_neg h53,if_pos h55] at ht;rw [ht];exact .same (.blk rfl (fun j hj=>KP _ _ j hj) .nil))
    |(rw [if_neg h53,if_neg h55,if_pos h57] at ht;rw [ht];exact .same (.blk rfl (fun j hj=>KQ _ _ j hj) .nil))
    |(rw [if_neg h53,if_neg h55,if_neg h57] at ht;rw [ht];exact .same (.same .nil))
  refine jU 51600006 ?_;refine aq (fun h57=>?_) fun h57=>?_
  rotate_left
  ·refine jU 8519200840040010 ?_
   refine aw (i+1) ?_ ?_ (h5:=?_) (h7:=?_)
   ·show i+1≤l.length;omega
   ·show l.length-(i+1)<l.length-i;omega
   ·exact .cons (cI jO) .nil
   ·have ht:=mX (l:=l) (i:=i) jO
    unfold sT at ht
    rw [show mM=[49,46,51,46,57,57,57,57,46,49,46,49] from rfl,show pV=[49,46,51,46,57,57,57,57,46,49,46,50] from rfl,show mL=[49,46,51,46,57,57,57,57,46,49,46,51] from rfl] at ht
    first
    |(rw [if_pos h53] at ht;rw [ht];refine .same (.blk rfl (fun j hj=>?_) .nil);have:=KR (eH (l.take i)) (sx (l.getD i ([],[])).2) j hj;exact this)
    |(rw [if_neg h53,if_pos h55] at ht;rw [ht];exact .same (.blk rfl (fun j hj=>KP _ _ j hj) .nil))
    |(rw [if_neg h53,if_neg h55,if_pos h57] at ht;rw [ht];exact .same (.blk rfl (fun j hj=>KQ _ _ j hj) .nil))
    |(rw [if_neg h53,if_neg h55,if_neg h57] at ht;rw [ht];exact .same (.same .nil))
  refine jU 100050100200 ?_
  refine ar (ax 1 ?_)
  refine jU 851920084004005 ?_
  refine aw (i+1) ?_ ?_ (h5:=?_) (h7:=?_)
  ·show i+1≤l.length;omega
  ·show l.length-(i+1)<l.length-i;omega
  ·exact .cons (cI jO) .nil
  ·have ht:=mX (l:=l) (i:=i) jO
   unfold sT at ht
   rw [show mM=[49,46,51,46,57,57,57,57,46,49,46,49] from rfl,show pV=[49,46,51,46,57,57,57,57,46,49,46,50] from rfl,show mL=[49,46,51,46,57,57,57,57,46,49,46,51] from rfl] at ht
   first
   |(rw [if_pos h53] at ht;rw [ht];refine .same (.blk rfl (fun j hj=>?_) .nil);have:=KR (eH (l.take i)) (sx (l.getD i ([],[])).2) j hj;exact this)
   |(rw [if_neg h53,if_pos h55] at ht;rw [ht];exact .same (.blk rfl (fun j hj=>KP _ _ j hj) .nil))
   |(rw [if_neg h53,if_neg h55,if_pos h57] at ht;rw [ht];exact .same (.blk rfl (fun j hj=>KQ _ _ j hj) .nil))
   |(rw [if_neg h53,if_neg h55,if_neg h57] at ht;rw [ht];exact .same (.same .nil))
end
section
variable {gs:List Nat} [eN gs]

set_option maxHeartbeats 2000000 in
theorem Ac {gs:List Nat} (l:List P2) (hl:l.length≤1000000):bM gs Tryz.prog 153 [iw l] (.tup 2 (fl [lR (kJ l).1,.c (.bool (decide ((kJ l).2=0)))])):=by
 refine ai 69 Tryz.func153 fun al w0 F0 St0=>?_;refine cy ?_
 refine ak (bD (n:=3) nH rfl fun p1=>?_)
 refine jU 20516751 ?_;refine aF (α:=Nat) [3,4,5,6,7,8,9,10,11,12,13,14,15,16,17,18,19,20,21,22,23,24,25,26,27,28,29,30,31,32,33,34,35,36,37,38,39,40,41,42,43,44,45,46,47,48,49,50,51,52,53,54,55,56,57,58,59,60,61,62,63,64,65,66,67] (fun k=>[(4,.c (.int .i64 (k:Nat)))]) (fun k=>[(p1,.blk 3 fun _=>.top)]) (fun k=>1≤k∧k≤6∧∀ q:Int,1≤q→q<(k:Nat)→¬ pj l q) (fun k=>6-k) (1) ?_ (fun _=>rfl) ?_ ?_ ?_
 ·exact ⟨by omega,by omega,fun q h1 h2=>by omega⟩
 ·exact .cons cZ .nil
 ·exact .blk rfl (fun _ _=>ab.top _) .nil
 ·rintro k ⟨hk1,hk6,hno⟩
  refine jU 52167 ?_;refine aq (fun h41=>?_) fun h41=>?_
  rotate_left
  ·refine jU 684000200020006000 ?_;refine jq (ae (n:=3) rfl nH Av rfl rfl) ?_
   refine ar (ax 3 ?_)
   refine jU 51 ?_
   refine jR (cX (hres:=bH rfl (bz 3) aG) (hv:=?_))
   rw [Im (fun q h1 h5=>hno q h1 jO)]
   exact cT (ab.agg3 cZ cZ cZ) cZ
  refine jU 16207810 ?_;refine jq (ae (n:=3) rfl nH Av rfl rfl) ?_
  refine ak (bD (n:=3) nH rfl fun p2=>?_)
  refine ar (ax 3 ?_)
  refine jU 5 ?_;refine eW (α:=Unit) [15,16,17,18,19,20,21,22,23,24,25] (fun _=>[]) (fun _=>[(p1,.blk 3 fun _=>.top),(p2,.blk 3 (sF ((k:Int),[],(eB l k).2.2)))]) (fun _=>True) (fun _=>rfl) ?_ ?_
  ·refine jU 52316 ?_;refine aq (fun h43=>?_) fun h43=>?_
   rotate_left
   ·refine jU 810 ?_
    refine dh (()) ?_ (h5:=?_) (h7:=?_)
    ·trivial
    ·exact .nil
    ·exact .same (.blk rfl (fun j hj=>by rcases j with _|_|_|j <;> first|exact cZ|omega|(refine ab.strL ?_;unfold eB;simp_all;done)) .nil)
   refine jU 9311200 ?_;refine jq (fb (i:=(l.length-1)) (hz:=by omega)) ?_;refine jU 100060100 ?_
   refine ar (ax 1 ?_)
   refine jU 85 ?_
   refine dh (()) ?_ (h5:=?_) (h7:=?_)
   ·trivial
   ·exact .nil
   ·exact .same (.blk rfl (fun j hj=>by rcases j with _|_|_|j <;> first|exact cZ|omega|(refine ab.strL ?_;unfold eB;simp_all;done)) .nil)
  ·rintro u _
   refine eW (α:=Unit) [26,27,28,29,30,31,32,33,34,35,36,37] (fun _=>[]) (fun _=>[(p1,.blk 3 fun _=>.top),(p2,.blk 3 (sF (eB l k)))]) (fun _=>True) (fun _=>rfl) ?_ ?_
   ·refine jU 1216 ?_;refine ay 28 (fun g46=>?_) fun g46=>?_
    rotate_left
    ·refine jU 8103005500444 ?_
     refine dh (()) ?_ (h5:=?_) (h7:=?_)
     ·trivial
     ·exact .nil
     ·exact .same (.blk rfl (fun j hj=>by rcases j with _|_|_|j <;> first|exact cZ|(refine ab.strL ?_;unfold eB;simp_all;done)) .nil)
    refine jU 5100000000231 ?_;refine aq (fun h46=>?_) fun h46=>?_
    rotate_left
    ·refine jU 810 ?_
     refine dh (()) ?_ (h5:=?_) (h7:=?_)
     ·trivial
     ·exact .nil
     ·exact .same (.blk rfl (fun j hj=>by rcases j with _|_|_|j <;> first|exact cZ|(refine ab.strL ?_;unfold eB;simp;omega)) .nil)
    refine jU 1200 ?_;refine jq (fb (i:=1)) ?_;refine jU 10060100 ?_
    refine ar (ax 1 ?_)
    refine jU 85 ?_
    refine dh (()) ?_ (h5:=?_) (h7:=?_)
    ·trivial
    ·exact .nil
    ·exact .same (.blk rfl (fun j hj=>by rcases j with _|_|_|j <;> first|exact cZ|(refine ab.strL ?_;unfold eB;simp_all;done)) .nil)
   ·rintro u _
    refine jU 67 ?_;refine eL (aV 3) ?_
    refine ak (ap (rS (eB l k)) ?_)
    refine jU 530 ?_;refine aq (fun h49=>?_) fun h49=>?_
    ·refine jU 851912008400020006000 ?_
     refine aw (k+1) ?_ ?_ (h5:=?_) (h7:=?_)
     ·refine ⟨by omega,by omega,fun q h1 h2=>?_⟩
      by_cases hq:q=(k:Int)
      ·rw [hq]
       exact fun hi=>absurd hi.1 (by simpa using h49)
      ·exact hno q h1 jO
     ·show 6-(k+1)<6-k;omega
     ·exact .cons (cI jO) .nil
     ·exact .same .nil
    refine jU 810 ?_
    have hr:bx (eB l k)=true:=by simpa using h49
    refine cy ?_;refine eL (aV 3) ?_
    refine ak (ap (wW (eB l k) hr) ?_)
    refine jU 51 ?_
    obtain ⟨W,hW⟩:∃ W,W=aX (eB l k):=⟨_,rfl⟩
    rw [← hW]
    refine jU 20516751231316 ?_;refine aF (α:=Nat×Bool) [7,8,48,49,50,51,52,53,54,55,56,57,58,59,60,61,62,63,64,65] (fun (i,b)=>[(7,.c (.bool b)),(8,.c (.int .i64 (i:Nat)))]) (fun (i,b)=>[(p1,.blk 3 fun _=>.top),(p2,.blk 3 (sF (eB l k)))]) (fun (i,b)=>i≤W.length∧(b=true→W.length=l.length∧W.take i=l.take i)∧(b=false→W≠l)) (fun p=>W.length-p.1) ((0,decide (W.length=l.length))) ?_ (fun _=>rfl) ?_ ?_ ?_
    ·exact ⟨Nat.zero_le _,fun h=>⟨by simpa using h,by simp⟩,fun h e=>by rw [e] at h;simp at h⟩
    ·exact .cons (cB (decide_eq_decide.2 jO)) (.cons cZ .nil)
    ·exact .same (.same .nil)
    ·rintro ⟨i,b⟩ ⟨hi,hw1,hw2⟩
     refine jU 1167 ?_;refine ay 49 (fun g54=>?_) fun g54=>?_
     rotate_left
     ·refine jU 5168400020002000600030055004444 ?_;refine aq (fun h57=>?_) fun h57=>?_
      ·refine cy ?_;refine eL (aV 3) ?_
       refine ar (ax 3 ?_)
       refine jU 51 ?_
       refine jR (yY (ii (ii (yY (ii (cX (hres:=bH rfl (bz 3) aG) (hv:=?_)))))))
       have hbt:b=true:=by exact h57
       have hWl:W=l:=by
        obtain ⟨hl1,hl2⟩:=hw1 hbt
        have hle:W.length≤i:=by (simp_all;done)
        rw [List.take_of_length_le jO,List.take_of_length_le jO] at hl2
        exact hl2
       have hk:pj l k:=⟨hr,by rw [← hW];exact hWl⟩
       rw [vi hk]
       exact cT (ab.agg3 cZ cZ cZ) cZ
      refine jU 85191200840010 ?_
      refine aw (k+1) ?_ ?_ (h5:=?_) (h7:=?_)
      ·refine ⟨by omega,by omega,fun q h1 h2=>?_⟩
       by_cases hq:q=(k:Int)
       ·rw [hq]
        (rintro ⟨_,hi⟩;rw [← hW] at hi;exact hw2 (by simpa using h57) hi)
       ·exact hno q h1 jO
      ·show 6-(k+1)<6-k;omega
      ·exact .cons (cI jO) .nil
      ·exact .same .nil
     refine jU 51000000002311 ?_;refine aq (fun h54=>?_) fun h54=>?_
     ·refine jU 207810 ?_
      obtain ⟨hl1,hl2⟩:=hw1 g54
      refine ff (.rd 0 (.rd 1 (.rd 2 (.rd 3 (.rd 4 (.rd 5 (.rd 6 (.rd 7 (.rd 8 (.rd 9 .done)))))))))) ?_;refine jU 900007070 ?_;refine bV (gq 2) ?_;refine jU 900007070 ?_;refine bV (gq 2) ?_;refine bV (HM rfl rfl rfl Tryz.underlying212 (by kernel_rfl) (by kernel_rfl) (.str Tryz.underlying9 jD rfl rfl (.str Tryz.underlying9 jD rfl rfl .nil)) rfl) ?_;refine jU 8519120084008070 ?_
      refine aw ((i+1,decide (W.getD i ([],[])=l.getD i ([],[])))) ?_ ?_ (h5:=?_) (h7:=?_)
      ·refine ⟨by omega,fun hb=>⟨hl1,?_⟩,fun hb e=>?_⟩
       ·have hb:W.getD i ([],[])=l.getD i ([],[]):=by simpa using hb
        rw [qK jO,qK jO] at hb
        rw [List.take_succ_eq_append_getElem (show i<W.length by omega),List.take_succ_eq_append_getElem (show i<l.length by omega),hl2,hb]
       ·rw [e] at hb;simp at hb
      ·show W.length-(i+1)<W.length-i;omega
      ·exact .cons (cB (decide_eq_decide.2 ⟨fun h=>Prod.ext (sN.1 h.1) (sN.1 h.2.1),fun h=>⟨by rw [h],by rw [h],trivial⟩⟩)) (.cons (cI jO) .nil)
      ·exact .same (.same .nil)
     refine jU 51684000200020006000 ?_;refine aq (fun h57=>?_) fun h57=>?_
     ·refine cy ?_;refine eL (aV 3) ?_
      refine ar (ax 3 ?_)
      refine jU 51 ?_
      refine jR (yY (ii (ii (yY (ii (cX (hres:=bH rfl (bz 3) aG) (hv:=?_)))))))
      have hbt:b=true:=by exact h57
      have hWl:W=l:=by
       obtain ⟨hl1,hl2⟩:=hw1 hbt
       have hle:W.length≤i:=by omega
       rw [List.take_of_length_le jO,List.take_of_length_le jO] at hl2
       exact hl2
      have hk:pj l k:=⟨hr,by rw [← hW];exact hWl⟩
      rw [vi hk]
      exact cT (ab.agg3 cZ cZ cZ) cZ
     refine jU 85191200840010 ?_
     refine aw (k+1) ?_ ?_ (h5:=?_) (h7:=?_)
     ·refine ⟨by omega,by omega,fun q h1 h2=>?_⟩
      by_cases hq:q=(k:Int)
      ·rw [hq]
       (rintro ⟨_,hi⟩;rw [← hW] at hi;exact hw2 (by simpa using h57) hi)
      ·exact hno q h1 jO
     ·show 6-(k+1)<6-k;omega
     ·exact .cons (cI jO) .nil
     ·exact .same .nil
end
section
variable {gs:List Nat} [eN gs]

theorem u6 (l:List P2):(kJ l).2=0∨((kJ l).2=9∧(kJ l).1=bA):=by
 unfold kJ;split
 ·exact .inl rfl
 ·exact .inr ⟨rfl,rfl⟩
end
section
open Go.RowKit Cal
def v8 (t:List UInt8):VV:=⟨8,0,false,[],t⟩
def v7 (t:List UInt8) (most:Int):VV:=⟨7,most,false,[],t⟩
def w1 (tag:Int):VV:=⟨1,tag,false,[],[]⟩
def w2:VV:=⟨2,0,false,[],[]⟩
def pv (p:P2):List VV:=[w1 48,v8 p.1,v7 p.2 64,w2]
def sf (s:S3):List VV:=w1 48::((aX s).flatMap pv++[w2])
def wv (s:S3) (w:W8):W8:=if bx s=true then fJ (sf s) w else cj 9 w
def kH (s:S3) (r:R8):R8:=if bx s=true then gR (sf s) r else ⟨r.tags,r.rows,if r.e=0 then 9 else r.e⟩
theorem rr (tag:Int) (s:W8):jj (w1 tag) s=dw tag s:=by unfold jj;rw [if_pos (show (w1 tag).kind=1 from rfl)];rfl
theorem xU (s:W8):jj w2 s=db s:=by unfold jj;rw [if_neg (show ¬ w2.kind=1 by decide),if_pos (show w2.kind=2 from rfl)]
theorem Jz (t:List UInt8) (s:W8):jj (v8 t) s=eZ 6 (gT t) (bB t).2 s:=by
 unfold jj
 rw [if_neg (show ¬ (v8 t).kind=1 by show ¬ (8:Int)=1;decide),if_neg (show ¬ (v8 t).kind=2 by show ¬ (8:Int)=2;decide),if_neg (show ¬ (v8 t).kind=11 by show ¬ (8:Int)=11;decide)]
 rfl
theorem JA (t:List UInt8) (m:Int) (s:W8):jj (v7 t m) s=eZ 12 (if aN t m=0 then t else []) (aN t m) s:=by
 unfold jj
 rw [if_neg (show ¬ (v7 t m).kind=1 by show ¬ (7:Int)=1;decide),if_neg (show ¬ (v7 t m).kind=2 by show ¬ (7:Int)=2;decide),if_neg (show ¬ (v7 t m).kind=11 by show ¬ (7:Int)=11;decide)]
 rfl
theorem so {l:List UInt8} (h:lc l=true):(∀ c ∈ l,32≤c.toNat∧c.toNat<127)∧l≠[]∧l.length≤24:=by
 simp only [lc,Bool.and_eq_true,decide_eq_true_eq,List.all_eq_true] at h
 obtain ⟨⟨⟨⟨h1,h2⟩,_⟩,_⟩,h5⟩:=h
 refine ⟨fun c hc=>?_,h1,h2⟩
 have:=h5 c hc
 simp only [tV,Bool.or_eq_true,Bool.and_eq_true,decide_eq_true_eq] at this
 omega
theorem sX:∀ {l:List UInt8},(∀ c ∈ l,32≤c.toNat∧c.toNat<127)→fO l=true
 | [],_=>rfl
 | c::l,h=>by
  have hc:=h c List.mem_cons_self
  have e:bt (c::l) 0=c.toNat:=rfl
  rw [oV (by simp) (by rw [e];omega),e,jK]
  exact sX fun d hd=>h d (List.mem_cons_of_mem _ hd)
theorem lE {l:List UInt8} {m:Int} (h:∀ c ∈ l,32≤c.toNat∧c.toNat<127) (h0:l≠[]) (hm:(l.length:Int)≤m):aN l m=0:=by
 have hp:=List.length_pos_iff.2 h0
 unfold aN
 rw [jK,jK,if_neg (by rw [sX h];decide)]
theorem sO {l:List UInt8} {m:Int} (h:aN l m=0):(l.length:Int)≤m:=by
 unfold aN at h
 by_cases h0:l.length=0
 ·rw [if_pos h0] at h;cases h
 ·rw [if_neg h0] at h
  by_cases h1:m<l.length
  ·rw [if_pos h1] at h;cases h
  ·omega
def rF (p:P2):Prop:=(bB p.1).2=0∧aN p.2 64=0
def jZ (p:P2):List (Int×List UInt8):=[(6,gT p.1),(12,p.2)]
def pE (p:P2):Int×List UInt8:=(48,((jZ p).map pz).flatten)
def qJ (p:P2):List UInt8:=pz (pE p)
def O1 (s:S3):Int×List UInt8:=(48,(((aX s).map pE).map pz).flatten)
def EC (s:S3):List UInt8:=pz (O1 s)
theorem sa:(bB mM).2=0∧(bB pV).2=0∧(bB mL).2=0:=by decide +kernel
theorem BS {k:Int} (h1:1≤k) (h5:k≤5):(∀ c ∈ fk k,32≤c.toNat∧c.toNat<127)∧fk k≠[]∧(fk k).length≤8:=by
 obtain rfl|rfl|rfl|rfl|rfl:=kinds h1 h5 <;> decide
theorem i9 {s:S3} (h:bx s=true):(∀ p ∈ aX s,rF p∧p.1.length=12∧p.2.length≤24)∧(aX s).length≤3:=by
 obtain ⟨h1,h5,hn,h2,hs⟩:=(ky s).1 h
 have hw:=BS h1 h5
 have hn':=so hn
 have gk:rF (mM,fk s.1)∧(mM,fk s.1).1.length=12∧(mM,fk s.1).2.length≤24:=⟨⟨sa.1,lE hw.1 hw.2.1 (by have:=hw.2.2;show ((fk s.1).length:Int)≤64;omega)⟩,rfl,by have:=hw.2.2;dsimp only;omega⟩
 have gn:rF (mL,s.2.2)∧(mL,s.2.2).1.length=12∧(mL,s.2.2).2.length≤24:=⟨⟨sa.2.2,lE hn'.1 hn'.2.1 (by have:=hn'.2.2;show (s.2.2.length:Int)≤64;omega)⟩,rfl,hn'.2.2⟩
 rw [xf h]
 by_cases hk:s.1=2
 ·have hsp:=so (h2 hk)
  have gs:rF (pV,s.2.1)∧(pV,s.2.1).1.length=12∧(pV,s.2.1).2.length≤24:=⟨⟨sa.2.1,lE hsp.1 hsp.2.1 (by have:=hsp.2.2;show (s.2.1.length:Int)≤64;omega)⟩,rfl,hsp.2.2⟩
  rw [if_pos hk]
  refine ⟨fun p hp=>?_,by simp⟩
  rcases List.mem_cons.1 hp with rfl|hp
  ·exact gk
  ·rcases List.mem_cons.1 hp with rfl|hp
   ·exact gs
   ·rw [List.mem_singleton.1 hp];exact gn
 ·rw [if_neg hk]
  refine ⟨fun p hp=>?_,by simp⟩
  rcases List.mem_cons.1 hp with rfl|hp
  ·exact gk
  ·rw [List.mem_singleton.1 hp];exact gn
theorem r7 {p:P2} (h:rF p) (h1:p.1.length≤300):(((jZ p).map pz).flatten).length≤1000∧(gT p.1).length≤600∧p.2.length≤64:=by
 have h2:=tP p.1
 have h3:=sO h.2
 have h4:=jC 6 (gT p.1)
 have h5:=jC 12 p.2
 simp only [jZ,pz,List.map_cons,List.map_nil,List.flatten_cons,List.flatten_nil,List.append_nil,List.length_append]
 omega
theorem ub (b:List UInt8) {t:Int} {ls:List (List UInt8)} {fr:List (Int×List (List UInt8))} {d:List UInt8}:cG b ⟨(t,ls)::fr,d,0⟩=⟨(t,ls++[b])::fr,d,0⟩:=rfl
theorem Mo {p:P2} (h:rF p) (h1:p.1.length≤300) {s:W8} (hk:s.k=0) (hf:s.fr.length<16):fJ (pv p) s=cG (qJ p) s:=by
 obtain ⟨l1,l2,l3⟩:=r7 h h1
 obtain ⟨fr,d,k⟩:=s
 simp only at hk hf
 subst hk
 show jj w2 (jj (v7 p.2 64) (jj (v8 p.1) (jj (w1 48) ⟨fr,d,0⟩)))=_
 rw [rr,DN rfl jD hf,Jz,h.1,uX rfl jD jO,ub,JA,h.2,if_pos rfl,uX rfl jD jO,ub,xU]
 have e:([]++[dl 6 (gT p.1)]++[dl 12 p.2]:List (List UInt8)).flatten=((jZ p).map pz).flatten:=rfl
 rw [vW jD jD (by rw [e];omega),e]
 rfl
theorem Bo:∀ (ps:List P2) {ls:List (List UInt8)} {fr:List (Int×List (List UInt8))} {d:List UInt8},(∀ p ∈ ps,rF p∧p.1.length≤300)→fr.length<15→fJ (ps.flatMap pv) ⟨(48,ls)::fr,d,0⟩=⟨(48,ls++ps.map qJ)::fr,d,0⟩
 | [],ls,fr,d,_,_=>by simp [fJ]
 | p::ps,ls,fr,d,h,hf=>by
  rw [List.flatMap_cons,pm,Mo (h p List.mem_cons_self).1 (h p List.mem_cons_self).2 rfl (by simp only [List.length_cons];omega),ub,Bo ps (fun q hq=>h q (List.mem_cons_of_mem _ hq)) hf]
  simp
theorem yk {s:S3} (h:bx s=true):(((aX s).map pE).map pz).flatten.length≤4000∧(EC s).length≤4100:=by
 obtain ⟨h1,h2⟩:=i9 h
 have key:∀ ps:List P2,(∀ p ∈ ps,rF p∧p.1.length=12∧p.2.length≤24)→((ps.map pE).map pz).flatten.length≤1010 * ps.length:=fun ps=>by
  induction ps with
  | nil=>intro _;simp
  | cons p ps ih =>
   intro h
   have h3:=ih fun q hq=>h q (List.mem_cons_of_mem _ hq)
   obtain ⟨h4,h5,_⟩:=h p List.mem_cons_self
   have h6:=r7 h4 jO
   have h7:=jC 48 ((jZ p).map pz).flatten
   have h8:(pz (pE p)).length=(dl 48 ((jZ p).map pz).flatten).length:=rfl
   simp only [List.map_cons,List.flatten_cons,List.length_append,List.length_cons]
   omega
 have h3:=key _ h1
 have h4:=jC 48 (((aX s).map pE).map pz).flatten
 have h5:(EC s).length=(dl 48 (((aX s).map pE).map pz).flatten).length:=rfl
 omega
theorem Lp {s:S3} (h:bx s=true) {w:W8} (hk:w.k=0) (hf:w.fr.length<15):wv s w=cG (EC s) w:=by
 obtain ⟨h1,h2⟩:=i9 h
 obtain ⟨l1,l2⟩:=yk h
 obtain ⟨fr,d,k⟩:=w
 simp only at hk hf
 subst hk
 unfold wv
 rw [if_pos h]
 show fJ ((aX s).flatMap pv++[w2]) (jj (w1 48) ⟨fr,d,0⟩)=_
 rw [rr,DN rfl jD (by dsimp only;omega),pm,Bo _ (fun p hp=>⟨(h1 p hp).1,by have:=(h1 p hp).2.1;omega⟩) hf]
 rw [show ∀ X,fJ [w2] X=jj w2 X from fun _=>rfl,xU]
 have e:([]++(aX s).map qJ:List (List UInt8)).flatten=(((aX s).map pE).map pz).flatten:=by rw [List.nil_append,List.map_map];rfl
 rw [vW jD jD (by rw [e];omega),e]
 rfl
def GJ:W8:=⟨[],[],0⟩
theorem fF {t:Int} (h:-9223372036854775808≤t∧t≤9223372036854775807):jh (w1 t):=⟨h,by simp [w1],by simp [w1]⟩
theorem lS:jh w2:=⟨by simp [w2],by simp [w2],by simp [w2]⟩
theorem qx {t:List UInt8} (h:t.length≤300):jh (v8 t):=⟨by simp [v8],by simp [v8],h⟩
theorem qy {t:List UInt8} (h:t.length≤300):jh (v7 t 64):=⟨by simp [v7],by simp [v7],h⟩
theorem uu {p:P2} (h1:p.1.length≤300) (h2:p.2.length≤300):∀ v ∈ pv p,jh v:=fun v hv=>by
 simp only [pv,List.mem_cons,List.not_mem_nil,or_false] at hv
 rcases hv with rfl|rfl|rfl|rfl
 ·exact fF jD
 ·exact qx h1
 ·exact qy h2
 ·exact lS
theorem tN:∀ ps:List P2,(ps.flatMap pv).length=4 * ps.length
 | []=>rfl
 | p::ps=>by
  rw [List.flatMap_cons,List.length_append,tN ps,List.length_cons]
  show 4+_=_
  omega
theorem IR {i:Nat} {r:R8} {w:W8} (hI:ie i r w) (s:S3):ie (i+14) (kH s r) (wv s w):=by
 unfold kH wv
 by_cases h:bx s=true
 ·rw [if_pos h,if_pos h]
  obtain ⟨h1,h2⟩:=i9 h
  have hl:(sf s).length≤14:=by
   unfold sf
   rw [List.length_cons,List.length_append,tN]
   simp only [List.length_singleton]
   omega
  refine qY (tZ (sf s) hI fun v hv=>?_) jO
  unfold sf at hv
  rcases List.mem_cons.1 hv with rfl|hv
  ·exact fF jD
  ·rcases List.mem_append.1 hv with hv|hv
   ·obtain ⟨p,hp,hv⟩:=List.mem_flatMap.1 hv
    obtain ⟨_,h3,h4⟩:=h1 p hp
    exact uu jO jO v hv
   ·rw [List.mem_singleton.1 hv];exact lS
 ·rw [if_neg h,if_neg h]
  exact qY (A6 hI 9) jO
def aL:AA:=⟨1,48,0,0⟩
def aO:AA:=⟨8,0,0,0⟩
def aT:AA:=⟨7,0,0,64⟩
def aE:AA:=⟨2,0,0,0⟩
def aj:nA P2:=fun l k =>
 let r1:=aa aL l k
 let r2:=aa aO r1.l r1.k
 let r3:=aa aT r2.l r2.k
 let r4:=aa aE r3.l r3.k
 ((r4.l,r4.k),(r2.v.t,r3.v.t))
theorem said_O (b:List UInt8):saidM aO b=(vT (dM b).1,(dM b).2):=rfl
theorem said_T (b:List UInt8):saidM aT b=(vT (if aN b 64=0 then b else []),aN b 64):=rfl
theorem gz:oD aj:=by
 have key:∀ l k,0<l.length→cn l k=true→ec (aj l k).1.1 (aj l k).1.2<ec l k∧((aj l k).1.2=0→(aj l k).1.1.length=l.length)∧l.length≤(aj l k).1.1.length∧(aj l k).1.1.length≤l.length+16:=by
  intro l k hl hm
  have hk:=(kM hm).1
  obtain ⟨a1,a2,a3,a4,a5,a6,a7⟩:=fU aL (l:=l) (k:=k) hl
  have a3':=a3 hk jD
  obtain ⟨a41,a42⟩:=a4 rfl
  have p1:l.length≤(aa aL l k).l.length∧(aa aL l k).l.length≤l.length+1:=by
   by_cases h:(aa aL l k).k=0
   ·have:=a41 h;omega
   ·have:=a42 h;omega
  obtain ⟨b1,b2,b3,b4,b5,b6,b7⟩:=fU aO (l:=(aa aL l k).l) (k:=(aa aL l k).k) jO
  have b6':=b6 jD jD
  obtain ⟨c1,c2,c3,c4,c5,c6,c7⟩:=fU aT (l:=(aa aO (aa aL l k).l (aa aL l k).k).l) (k:=(aa aO (aa aL l k).l (aa aL l k).k).k) jO
  have c6':=c6 jD jD
  obtain ⟨d1,d2,d3,d4,d5,d6,d7⟩:=fU aE (l:=(aa aT (aa aO (aa aL l k).l (aa aL l k).k).l (aa aO (aa aL l k).l (aa aL l k).k).k).l) (k:=(aa aT (aa aO (aa aL l k).l (aa aL l k).k).l (aa aO (aa aL l k).l (aa aL l k).k).k).k) jO
  obtain ⟨d51,d52⟩:=d5 rfl
  show ec (aa aE _ _).l (aa aE _ _).k<_∧((aa aE _ _).k=0→(aa aE _ _).l.length=_)∧_≤(aa aE _ _).l.length∧(aa aE _ _).l.length≤_
  refine ⟨by omega,fun h=>?_,?_,?_⟩
  ·have:=d51 h
   have:=a41 (b7 (c7 (d7 h)))
   omega
  ·by_cases h:(aa aE (aa aT (aa aO (aa aL l k).l (aa aL l k).k).l (aa aO (aa aL l k).l (aa aL l k).k).k).l (aa aT (aa aO (aa aL l k).l (aa aL l k).k).l (aa aO (aa aL l k).l (aa aL l k).k).k).k).k=0
   ·have:=d51 h
    have:=a41 (b7 (c7 (d7 h)))
    omega
   ·have:=d52 h;omega
  ·by_cases h:(aa aE (aa aT (aa aO (aa aL l k).l (aa aL l k).k).l (aa aO (aa aL l k).l (aa aL l k).k).k).l (aa aT (aa aO (aa aL l k).l (aa aL l k).k).l (aa aO (aa aL l k).l (aa aL l k).k).k).k).k=0
   ·have:=d51 h;omega
   ·have:=d52 h;omega
 exact ⟨fun l k h1 h2=>(key l k h1 h2).1,fun l k h1 h2=>(key l k h1 h2).2.1,fun l k h1 h2=>(key l k h1 h2).2.2⟩
theorem xg (p:P2):((jZ p).map pz).flatten=dl 6 (gT p.1)++(dl 12 p.2++[]):=by simp [jZ,pz]
def PW (p:P2):Prop:=rF p∧(gT p.1).length≤65530∧(((jZ p).map pz).flatten).length≤65530
theorem Lt:Di aj qJ PW:=by
 refine ⟨fun ls p r h=>?_,fun ls x k h=>?_,fun p _=>zd _⟩
 ·obtain ⟨⟨h1,h2⟩,h3,h4⟩:=h
  have h5:=sO h2
  obtain ⟨e1,e2,_⟩:=Gf ls (t:=48) (b:=((jZ p).map pz).flatten) r jD h4
  obtain ⟨f1,f2⟩:=eF aL rfl (ls++[qJ p++r]) 0
  have g1:(aa aL (ls++[qJ p++r]) 0).l=ls++[r]++[dl 6 (gT p.1)++(dl 12 p.2++[])]:=by rw [f1,← xg];exact e1
  have g2:(aa aL (ls++[qJ p++r]) 0).k=0:=f2.trans e2
  have hpm:gT p.1=yI (bB p.1).1:=by unfold gT;rw [if_pos h1]
  have hO:saidM aO (gT p.1)=(vT p.1,0):=by rw [said_O,hpm,CW h1]
  have hT:saidM aT p.2=(vT p.2,0):=by rw [said_T,h2,if_pos rfl]
  have g3:=Ah aO (ls++[r]) (b:=gT p.1) (dl 12 p.2++[]) jD h3 (by rw [hO])
  have g4:=Ah aT (ls++[r]) (b:=p.2) [] jD jO (by rw [hT])
  have g5:=FJ (ls:=ls++[r]) (by simp)
  obtain ⟨g6,g7⟩:=dK aE rfl (ls++[r]++[[]]) 0
  have tO:bO aO=6:=rfl
  have tT:bO aT=12:=rfl
  rw [tO] at g3
  rw [tT] at g4
  unfold aj
  dsimp only
  rw [g1,g2,g3]
  dsimp only
  rw [g4]
  dsimp only
  rw [g6,g7,g5.1,g5.2,hO,hT]
  rfl
 ·have hk4:(aa aE (aa aT (aa aO (aa aL (ls++[x]) k).l (aa aL (ls++[x]) k).k).l (aa aO (aa aL (ls++[x]) k).l (aa aL (ls++[x]) k).k).k).l (aa aT (aa aO (aa aL (ls++[x]) k).l (aa aL (ls++[x]) k).k).l (aa aO (aa aL (ls++[x]) k).l (aa aL (ls++[x]) k).k).k).k).k=0:=h
  have len1:0<(aa aL (ls++[x]) k).l.length:=by
   obtain ⟨a1,a2,a3,a4,_⟩:=fU aL (l:=ls++[x]) (k:=k) (by simp)
   obtain ⟨a41,a42⟩:=a4 rfl
   by_cases h:(aa aL (ls++[x]) k).k=0
   ·rw [a41 h];omega
   ·rw [a42 h];simp
  obtain ⟨_,_,_,_,_,b6,b7⟩:=fU aO (l:=(aa aL (ls++[x]) k).l) (k:=(aa aL (ls++[x]) k).k) len1
  have b6':=b6 jD jD
  obtain ⟨_,_,_,_,_,c6,c7⟩:=fU aT (l:=(aa aO (aa aL (ls++[x]) k).l (aa aL (ls++[x]) k).k).l) (k:=(aa aO (aa aL (ls++[x]) k).l (aa aL (ls++[x]) k).k).k) jO
  have c6':=c6 jD jD
  obtain ⟨_,_,_,_,_,_,d7⟩:=fU aE (l:=(aa aT (aa aO (aa aL (ls++[x]) k).l (aa aL (ls++[x]) k).k).l (aa aO (aa aL (ls++[x]) k).l (aa aL (ls++[x]) k).k).k).l) (k:=(aa aT (aa aO (aa aL (ls++[x]) k).l (aa aL (ls++[x]) k).k).l (aa aO (aa aL (ls++[x]) k).l (aa aL (ls++[x]) k).k).k).k) jO
  have hk3:=d7 hk4
  have hk2:=c7 hk3
  have hk1:=b7 hk2
  obtain ⟨f1,f2⟩:=eF aL rfl (ls++[x]) k
  obtain ⟨hk0,b,r,e1,e2,e3,e4⟩:=qg (t:=48) jD (show (ag 48 (ls++[x]) k).k=0 from f2.symm.trans hk1)
  have g1:(aa aL (ls++[x]) k).l=ls++[r]++[b]:=f1.trans e3
  rw [g1,hk1] at hk2 hk3 hk4
  obtain ⟨_,o,r2,o1,o2,o3,o4⟩:=oX (a:=aO) jD hk2
  rw [o4] at hk3 hk4
  obtain ⟨_,t,r3,t1,t2,t3,t4⟩:=oX (a:=aT) jD hk3
  rw [t4] at hk4
  obtain ⟨f3,f4⟩:=dK aE rfl (ls++[r]++[r3]) 0
  dsimp only at hk4
  rw [f4] at hk4
  obtain ⟨_,u1,u2,u3⟩:=pX hk4
  subst u1
  have o3':(dM o).2=0:=o3
  have t3':aN t 64=0:=t3
  obtain ⟨q1,q2⟩:=Cu o3'
  have hO:(saidM aO o).1.t=(dM o).1:=rfl
  have hT:(saidM aT t).1.t=t:=by rw [said_T];show (if aN t 64=0 then t else [])=t;rw [if_pos t3']
  have hb:b=((jZ ((dM o).1,t)).map pz).flatten:=by
   rw [xg,o1,t1]
   show dl 6 o++(dl 12 t++[])=dl 6 (gT (dM o).1)++_
   rw [q1]
  refine ⟨hk0,((dM o).1,t),r,⟨⟨q2,t3'⟩,by rw [q1];exact o2,by rw [← hb];exact e2⟩,?_,?_⟩
  ·rw [e1,hb];rfl
  ·unfold aj
   dsimp only
   rw [g1,hk1,o4]
   dsimp only
   rw [t4]
   dsimp only
   rw [f3,f4,u3,hk4,hO,hT]
def ez (l:List (List UInt8)) (k:Nat):List (List UInt8)×Nat:=fh aj (an 48 l k) (ag 48 l k).k 8
def kN (l:List (List UInt8)) (k:Nat):List P2:=(bw aj (an 48 l k) (ag 48 l k).k (jG aj (an 48 l k) (ag 48 l k).k 8)).2
def eS (l:List (List UInt8)) (k:Nat):(List (List UInt8)×Nat)×S3 :=
 if (ez l k).2≠0 then (ez l k,bA) else (((ez l k).1,(kJ (kN l k)).2),(kJ (kN l k)).1)
theorem Fm (s:S3):((aX s).map qJ).flatten=(((aX s).map pE).map pz).flatten:=by rw [List.map_map];rfl
theorem F8 {ls:List (List UInt8)} {x:List UInt8} {k:Nat} (h:(eS (ls++[x]) k).1.2=0):k=0∧∃ s r,bx s=true∧x=EC s++r∧eS (ls++[x]) k=((ls++[r],0),s):=by
 unfold eS at h ⊢
 by_cases h0:(ez (ls++[x]) k).2≠0
 ·rw [if_pos h0] at h;exact absurd h h0
 ·rw [if_neg h0] at h ⊢
  obtain ⟨hk,xs,r,g1,g2,g3,g4,g5,g6⟩:=Hk gz Lt (tag:=48) (most:=8) (k:=k) ls x jD (by exact Classical.not_not.1 h0)
  have hE:ez (ls++[x]) k=(ls++[r],0):=g5
  have hL:kN (ls++[x]) k=xs:=g6
  rw [hE,hL] at h ⊢
  dsimp only at h ⊢
  have ho:kJ xs=((kJ xs).1,0):=Prod.ext rfl h
  obtain ⟨hr,hp⟩:=(DP _ _).1 ho
  refine ⟨hk,(kJ xs).1,r,hr,?_,by rw [h]⟩
  have hsb:EC (kJ xs).1=dl 48 (xs.map qJ).flatten:=by
   show dl 48 (((aX (kJ xs).1).map pE).map pz).flatten=_
   rw [← Fm,hp]
  rw [g4,hsb]
end
section
variable {gs:List Nat} [eN gs]
end
section
variable {gs:List Nat} [fZ gs]
open Go.RowKit Cal

def P9 (v:VV):Nat→CV:=fl [.c (.int .i64 v.kind),.c (.int .i64 v.n),.c (.bool v.is),bu v.b,au v.t]
def Qc:R8:=⟨[],[],0⟩
theorem Pn {G:Gh} {env:List (Nat×CV)} {b0:Nat→CV} {H:List (Option Nat×bp)} (n i:Nat) {f:Nat→CV} (hi:H[i]?=some (some n,.blk 3 f)) (h0:ab (f 0) (.c (.slice none 0 0))) (h1:ab (f 1) (.c (.slice none 0 0))) (h2:ab (f 2) (.c (.int .i64 0))):cU G ⟨env,b0,H⟩ ⟨env,b0,H.set i (tD n Qc)⟩:=by
 have hil:=(List.getElem?_eq_some_iff.1 hi).1
 have os0:∀ {j k:Nat},ab (.c (.slice none 0 0)) (.os j none 0 0 k):=fun al St w v h=>⟨rfl,h⟩
 intro St a w hr
 obtain ⟨S1,s1,r1⟩:=gv (G:=G) (s:=⟨env,b0,H⟩) (dv []) St a w hr
 obtain ⟨S4,s4,r4⟩:=pp (G:=G) (env:=env) (b0:=b0) (H:=H++[(none,.blk 0 (dv []))]) n Qc i H.length (gr:=none) (N:=0) (f:=f) (F:=dv [])
  (by rw [List.getElem?_append_left hil];exact hi) (by simp) (by cases e:Nat.beq i H.length with|false=>rfl|true=>have:=Nat.eq_of_beq_eq_true e;omega) (h0.trans (ab.nilS _ _)) (h1.trans os0) h2 (Nat.le_refl _) (fun a h=>absurd h (Nat.not_lt_zero a)) S1 a w r1
 obtain ⟨S5,s5,r5⟩:=dB (G:=G) (H':=H.set i (tD n Qc)) (List.range H.length) (gj _) (by
  rw [gm _ _ (by simp)]
  rw [kl _ _ _ _ jO,List.take_set,List.take_left]) S4 a w r4
 exact ⟨S5,fun b hb=>s5 b (s4 b (s1 b hb)),r5⟩
end
section
section
variable {P:Program} {G:Gh} {o:Oper} {env:List (Nat×CV)} {b0:Nat→CV} {H:List (Option Nat×bp)} {K:AS→Prop}
theorem hZ {f:FuncId} {v:Operand} {n d:Nat} {fv:Nat→CV} {xs:Array Operand} {ats:Array TypeId} {args:List CV} {Q:CV→List (Option Nat×bp)→Prop} {i:Nat} {x0:Option Nat×bp} (ho:o.op=.call ⟨.value v,xs,ats⟩) (hv:(⟨env,b0,H⟩:AS).eval v=.fn f n fv) (hc:br P f=true) (hi:H[i]?=some x0) (hA:AC G.gs P f [x0] args Q)
  (he:oE (xs.toList.map (⟨env,b0,H⟩:AS).eval++(List.range n).map fv) args) (hd:o.dst=some d) (hN:Nat.blt d G.N=true)
  (hK:∀ r H',Q r H'→∃ x,H'=[x]∧K ⟨(d,r)::env,b0,H.set i x⟩):uc P G o ⟨env,b0,H⟩ K :=
 It ho hv hc hi hA he (kW hd hN) (fun r H' hq=>by obtain ⟨x,h1,h2⟩:=hK r H' hq;exact ⟨x,h1,by rw [dU hd];exact h2⟩)
end
end
section
variable {gs:List Nat} [eN gs] [mm gs]
open Go.RowKit Cal

def Ax (p:P2):CV:=.agg 2 (fm p)
set_option maxHeartbeats 1000000 in
theorem Hj {gs:List Nat} [fZ gs] {f:FuncId} (hc:br Tryz.prog f=true) (n:Nat) (tag:Int) (ws:W8) (l:List P2) (sG:Nat→W8) (h0:wi ws) (hs:sG 0=dw tag ws) (hok:∀ i,i≤l.length→wi (sG i)) (hl:l.length≤1000000) (hf:∀ i,i<l.length→AC gs Tryz.prog f [iO n (sG i)] [.op 0 (some n) 0,Ax (l.getD i ([],[]))] (fun r H'=>r=.c (.tuple #[])∧H'=[iO n (sG (i+1))])) :
  AC gs Tryz.prog 171 [iO n ws] [.op 0 (some n) 0,.c (.int .i64 tag),iw l,.fn f 0 fun _=>.top] (fun r H'=>r=.c (.tuple #[])∧H'=[iO n (db (sG l.length))]):=by
 refine ai 26 Tryz.func171 fun al w0 F0 St0=>?_;refine jU 116 ?_
 refine ar (aJ 0 (u4 n ws tag h0) ?_)
 refine jU 205131675 ?_;refine aF (α:=Nat) [9,15,16,17,18,19,20,21,22,23] (fun i=>[(15,.c (.int .i64 (i:Nat)))]) (fun i=>[iO n (sG i)]) (fun i=>i≤l.length) (fun i=>l.length-i) (0) ?_ (fun _=>rfl) ?_ ?_ ?_
 ·exact Nat.zero_le _
 ·exact .cons cZ .nil
 ·rw [hs];exact aS.refl _
 ·rintro i (hi:i≤l.length)
  refine jU 7526 ?_;refine aq (fun h305=>?_) fun h305=>?_
  rotate_left
  ·refine jU 84000200020006000 ?_
   have hie:i=l.length:=by omega
   subst hie
   refine jU 1200 ?_
   refine ar (aJ 0 (sL n (sG l.length) (hok _ (Nat.le_refl _))) ?_)
   refine jU 5 ?_
   exact bQ (.inr rfl) _ [_] [0] jD rfl (bN rfl) ⟨rfl,rfl⟩
  refine jU 7006207810 ?_;refine jq (gq 2) ?_
  refine ak (bD (n:=2) dH rfl fun p2=>?_)
  refine ar (bh 2 (fm (l.getD i ([],[]))) ?_ ?_)
  ·exact (fun j hj=>by rcases j with _|_|j <;> first|exact cZ|omega)
  refine jU 112005 ?_;refine eL (aV 2) ?_
  refine ar (hZ (i:=0) rfl rfl (by assumption) rfl (hf i jO) (.cons cP (.cons (ab.agg rfl (fun j hj=>ab.of_eq (by show fm _ (0+j)=fm _ j;rw [Nat.zero_add]))) .nil)) rfl rfl ?_)
  rintro _ _ ⟨rfl,rfl⟩
  refine ⟨_,rfl,?_⟩
  refine jU 851920084005 ?_
  refine aw (i+1) ?_ ?_ (h5:=?_) (h7:=?_)
  ·show i+1≤l.length;omega
  ·show l.length-(i+1)<l.length-i;omega
  ·exact .cons (cI jO) .nil
  ·exact aS.refl _
theorem Lq (n:Nat) {i:Nat} {r:R8} {s:W8} (hI:ie i r s) (hi:i≤900) (p:P2) (h1:p.1.length≤300) (h2:p.2.length≤300):AC gs Tryz.prog 172 [iO n s] [.op 0 (some n) 0,Ax p] (fun r H'=>r=.c (.tuple #[])∧H'=[iO n (fJ (pv p) s)]):=by
 have I1:=iz hI (fF (t:=48) jD)
 rw [rr] at I1
 have I2:=iz I1 (qx h1)
 rw [Jz] at I2
 have I3:=iz I2 (qy h2)
 rw [JA] at I3
 have hD:fJ (pv p) s=db (eZ 12 (if aN p.2 64=0 then p.2 else []) (aN p.2 64) (eZ 6 (gT p.1) (bB p.1).2 (dw 48 s))):=by
  show jj w2 (jj (v7 p.2 64) (jj (v8 p.1) (jj (w1 48) s)))=_
  rw [rr,Jz,JA,xU]
 refine ai 16 Tryz.func172 fun al w0 F0 St0=>?_;refine cy ?_
 refine ak (cE 2 fun p1=>?_)
 refine jU 165 ?_
 refine ar (aJ 0 (u4 n s 48 (fX hI jO)) ?_)
 refine jU 5090165 ?_
 refine ar (aJ 0 (Lv n (dw 48 s) p.1 jO (fX I1 jO)) ?_)
 refine jU 50100165 ?_
 refine ar (aJ 0 (GU n (eZ 6 (gT p.1) (bB p.1).2 (dw 48 s)) p.2 64 jO (fX I2 jO)) ?_)
 refine jU 12005 ?_
 refine ar (aJ 0 (sL n (eZ 12 (if aN p.2 64=0 then p.2 else []) (aN p.2 64) (eZ 6 (gT p.1) (bB p.1).2 (dw 48 s))) (fX I3 jO)) ?_)
 refine jU 5 ?_
 rw [hD]
 exact bQ (.inr rfl) _ [_] [0] jD rfl (bN rfl) ⟨rfl,rfl⟩
theorem DK (n:Nat) {i:Nat} {r:R8} {w:W8} (hI:ie i r w) (hi:i≤800) (s:S3) (L:List P2) (e:Nat) (hp:bM gs Tryz.prog 170 [lR s] (.tup 2 (fl [iw L,.err e]))) (hL:∀ p ∈ L,p.1.length≤300∧p.2.length≤300) (hl:L.length≤8) :
  AC gs Tryz.prog 99 [iO n w] [.op 0 (some n) 0,lR s] (fun r H'=>r=.c (.tuple #[])∧H'=[iO n (db (fJ (L.flatMap pv) (dw 48 (cj e w))))]):=by
 have I0:=A6 hI e
 have I1:=iz I0 (fF (t:=48) jD)
 rw [rr] at I1
 have hG:∀ j,j≤L.length→∃ r',ie (i+1+4 * j) r' (fJ ((L.take j).flatMap pv) (dw 48 (cj e w))):=fun j hj=>by
  refine ⟨_,qY (tZ ((L.take j).flatMap pv) I1 fun v hv=>?_) ?_⟩
  ·obtain ⟨p,hp,hv⟩:=List.mem_flatMap.1 hv
   have h:=hL p (List.mem_of_mem_take hp)
   exact uu h.1 h.2 v hv
  ·rw [tN,List.length_take];omega
 have hS:∀ j,j<L.length→fJ ((L.take (j+1)).flatMap pv) (dw 48 (cj e w))=fJ (pv (L.getD j ([],[]))) (fJ ((L.take j).flatMap pv) (dw 48 (cj e w))):=fun j hj=>by
  rw [List.take_succ_eq_append_getElem hj,List.flatMap_append,pm,List.getD_eq_getElem?_getD,List.getElem?_eq_getElem hj]
  simp
 have hok:∀ j,j≤L.length→wi (fJ ((L.take j).flatMap pv) (dw 48 (cj e w))):=fun j hj=>by
  obtain ⟨r',h⟩:=hG j hj
  exact fX h jO
 have hf:∀ j,j<L.length→AC gs Tryz.prog 172 [iO n (fJ ((L.take j).flatMap pv) (dw 48 (cj e w)))] [.op 0 (some n) 0,Ax (L.getD j ([],[]))] (fun r H'=>r=.c (.tuple #[])∧H'=[iO n (fJ ((L.take (j+1)).flatMap pv) (dw 48 (cj e w)))]):=fun j hj=>by
  obtain ⟨r',h⟩:=hG j jO
  have hm:L.getD j ([],[]) ∈ L:=by
   rw [List.getD_eq_getElem?_getD,List.getElem?_eq_getElem hj]
   exact List.getElem_mem _
  rw [hS j hj]
  exact Lq n h jO _ (hL _ hm).1 (hL _ hm).2
 have hR:=Hj (gs:=gs) (f:=172) (by kernel_rfl) n 48 (cj e w) L (fun j=>fJ ((L.take j).flatMap pv) (dw 48 (cj e w))) (fX I0 jO) rfl hok jO hf
 rw [List.take_length] at hR
 refine ai 17 Tryz.func99 fun al w0 F0 St0=>?_;refine cy ?_
 refine ak (cE 3 fun p1=>?_)
 refine jU 65 ?_;refine eL (aV 3) ?_
 refine ak (ap hp ?_)
 refine jU 1165119009001 ?_
 refine ar (aJ 0 (vG n w e) ?_)
 refine jU 112005 ?_
 refine ar (aJ 0 hR ?_ (ho:=rfl) (he:=(.cons (se rfl cP) (.cons (se rfl cZ) (.cons (se rfl cZ) (.cons (se rfl ab.fn0) .nil))))))
 refine jU 5 ?_
 exact bQ (.inr rfl) _ [_] [0] jD rfl (bN rfl) ⟨rfl,rfl⟩
theorem LE (n:Nat) {i:Nat} {r:R8} {w:W8} (hI:ie i r w) (hi:i≤800) (s:S3):AC gs Tryz.prog 99 [iO n w] [.op 0 (some n) 0,lR s] (fun r H'=>r=.c (.tuple #[])∧H'=[iO n (wv s w)]):=by
 have hp:=xn (gs:=gs) s
 by_cases hr:bx s=true
 ·rw [if_pos hr,if_pos hr] at hp
  obtain ⟨h1,h2⟩:=i9 hr
  have h:=DK n hI hi s _ _ hp (fun p hp=>by have:=h1 p hp;omega) jO
  have e:wv s w=db (fJ ((aX s).flatMap pv) (dw 48 (cj 0 w))):=by
   unfold wv
   rw [if_pos hr,vF]
   show fJ ((aX s).flatMap pv++[w2]) (jj (w1 48) w)=_
   rw [rr,pm]
   exact xU _
  rw [e]
  exact h
 ·rw [if_neg hr,if_neg hr] at hp
  have h:=DK n hI hi s _ _ hp (fun p hp=>by cases hp) jD
  have hk:(cj 9 w).k≠0:=by
   unfold cj
   split
   ·show (9:Nat)≠0;decide
   ·assumption
  have e:wv s w=db (fJ (([]:List P2).flatMap pv) (dw 48 (cj 9 w))):=by
   unfold wv
   rw [if_neg hr]
   show _=db (dw 48 (cj 9 w))
   rw [← rr,← xU,Bp hk,Bp hk]
  rw [e]
  exact h
def Ln:R8:=⟨[],[],0⟩
theorem y6:ie 0 Ln GJ:=IQ
end
section
variable {gs:List Nat} [eN gs] [mm gs]
open Go.RowKit Cal

set_option maxHeartbeats 2000000 in
theorem KW {gs:List Nat} [fZ gs] {f:FuncId} (hc:br Tryz.prog f=true) (n:Nat) (l:List (List UInt8)) (k:Nat) (tag most:Int) {sp:nA P2} (ok:oD sp) (hl:0<l.length∧l.length≤100000) (hb:cm l≤100000) (hf:∀ l k,0<l.length∧l.length≤200000→cm l≤100000→cn l k=true→AC gs Tryz.prog f [dA n l k] [.op 0 (some n) 0] (fun r H'=>r=Ax (sp l k).2∧H'=[dA n (sp l k).1.1 (sp l k).1.2])) :
  AC gs Tryz.prog 188 [dA n l k] [.op 0 (some n) 0,.c (.int .i64 tag),.c (.int .i64 most),.fn f 0 fun _=>.top]
   (fun r H'=>r=iw (if (fh sp (an tag l k) (ag tag l k).k most).2=0 then (bw sp (an tag l k) (ag tag l k).k (jG sp (an tag l k) (ag tag l k).k most)).2 else [])∧H'=[dA n (fh sp (an tag l k) (ag tag l k).k most).1 (fh sp (an tag l k) (ag tag l k).k most).2]):=by
 have he:=mh (t:=tag) (l:=l) (k:=k) hl.1
 have hle:l.length≤(an tag l k).length∧(an tag l k).length≤l.length+1:=by
  by_cases h:(ag tag l k).k=0
  ·have:=he.2.2.2.1 h;omega
  ·have:=he.2.2.2.2.1 h;omega
 have hsm:ec (an tag l k) (ag tag l k).k≤100001:=by
  have h0:ec l k≤100001:=by unfold ec;split <;> omega
  exact Nat.le_trans he.2.1 h0
 have hse:cm (an tag l k)≤100000:=by
  have h1:=he.2.1
  have h2:=he.2.2.1
  have h3:=he.1
  by_cases hk:k=0
  ·have h4:=h2 hk
   unfold ec at h4
   rw [if_pos hk] at h4
   split at h4 <;> omega
  ·rw [(h3 hk).1];exact hb
 have hnl:=DR l
 generalize hl0:an tag l k=l0 at *
 generalize hk0:(ag tag l k).k=k0 at *
 have hso:=fun j=>qt sp l0 k0 j
 have hbd:=pO (sp:=sp) (k0:=k0) (most:=most) ok (show 0<l0.length by omega)
 refine ai 36 Tryz.func188 fun al w0 F0 St0=>?_;refine jU 116516516 ?_
 refine ar (aJ 0 (kV n l k tag jO jO) ?_)
 refine jU 2075 ?_
 rw [hl0,hk0]
 refine jE (tQ 9 2 (eK 2 fm ([],[]) []) rfl) ?_;refine aF (α:=Nat×Option Nat) [9,13,14,15,16,17,18,19,20,21,22,23,24,25,26,27] (fun (j,g)=>[(9,.os 1 g 0 (bw sp l0 k0 j).2.length 2)]) (fun (j,g)=>[dA n (bw sp l0 k0 j).1.1 (bw sp l0 k0 j).1.2,(g,.blk ((bw sp l0 k0 j).2.length * 2) (eK 2 fm ([],[]) (bw sp l0 k0 j).2))]) (fun p=>∀ i,i<p.1→qj sp l0 k0 most i=true) (fun p=>ec (bw sp l0 k0 p.1).1.1 (bw sp l0 k0 p.1).1.2) ((0,none)) ?_ (fun _=>rfl) ?_ ?_ ?_
 ·exact fun i hi=>absurd hi (Nat.not_lt_zero i)
 ·exact .cons (cO rfl) .nil
 ·exact aS.refl _
 ·rintro ⟨j,g⟩ (hj:∀ i,i<j→qj sp l0 k0 most i=true)
  obtain ⟨hmj,hlk,hlo,hhi⟩:=hbd j hj
  have hjl:0<(bw sp l0 k0 j).1.1.length∧(bw sp l0 k0 j).1.1.length≤200000:=by omega
  have hjo:=hso j
  have hjm:j≤100001:=by omega
  refine jU 167 ?_
  refine ar (aJ 0 (LG n (bw sp l0 k0 j).1.1 (bw sp l0 k0 j).1.2 jO) ?_)
  refine jU 5 ?_;refine aq (fun h315=>?_) fun h315=>?_
  rotate_left
  ·refine jU 84000200020006000 ?_
   first
    |(have hmt:cn (bw sp l0 k0 j).1.1 (bw sp l0 k0 j).1.2=true:=by simpa using h315
      have hkz:=(kM hmt).1
      rw [if_pos hkz]
      have hstop:jG sp l0 k0 most=j:=sv ok jO hj (by unfold qj;rw [hmt,Bool.true_and,decide_eq_false_iff_not];omega)
      have hE:dA n (cQ (bw sp l0 k0 j).1.1 3) (bc (bw sp l0 k0 j).1.1 3)=dA n (fh sp l0 k0 most).1 (fh sp l0 k0 most).2:=by
       unfold fh
       rw [hstop]
       dsimp only
       rw [if_pos hmt])
    |(have hmf:cn (bw sp l0 k0 j).1.1 (bw sp l0 k0 j).1.2=false:=by simpa using h315
      have hstop:jG sp l0 k0 most=j:=sv ok jO hj (by unfold qj;rw [hmf];rfl)
      have hE:dA n (cQ (bw sp l0 k0 j).1.1 (bw sp l0 k0 j).1.2) (bc (bw sp l0 k0 j).1.1 (bw sp l0 k0 j).1.2)=dA n (fh sp l0 k0 most).1 (fh sp l0 k0 most).2:=by
       unfold fh
       rw [hstop]
       dsimp only
       rw [if_neg (by rw [hmf];simp)])
   refine jU 16 ?_
   refine ar (aJ 0 (jH n (bw sp l0 k0 j).1.1 _ jO) ?_)
   refine jU 75 ?_
   dsimp only
   rw [hE,hstop]
   refine bK 0 rfl fun gl=>?_;refine jU 5500000501004016 ?_;refine aq (fun h323=>?_) fun h323=>?_
   ·refine jE (cS n (fh sp l0 k0 most).2 (fh sp l0 k0 most).1 0 2 rfl rfl rfl (cO rfl) cZ (Nat.le_refl _) (fun _ _=>cZ)) ?_;refine jU 30007000516 ?_
    exact bo (.inl rfl) [0] jD rfl (aA rfl (aP rfl)) (m:=iw []) (ab.nilS' rfl) ⟨by rw [jK],rfl⟩
   refine jU 810 ?_;refine jE (cS n (fh sp l0 k0 most).2 (fh sp l0 k0 most).1 0 2 rfl rfl rfl (cO rfl) cZ (Nat.le_refl _) (fun _ _=>cZ)) ?_;refine jU 5116 ?_;refine jE (freeze 1 rfl) ?_;refine jE (eP 8 (fun a b=>fm ((bw sp l0 k0 j).2.getD a ([],[])) b) rfl rfl jO (fun a b ha hb=>ab.of_eq (by rw [Nat.zero_add,gL hb]))) ?_;refine jU 7000 ?_
   exact bo (.inl rfl) [0] jD rfl (aA rfl (aP rfl)) (m:=iw (bw sp l0 k0 j).2) cZ ⟨by rw [jP],rfl⟩
  refine jU 521316720810 ?_;refine aq (fun h316=>?_) fun h316=>?_
  rotate_left
  ·refine jU 810 ?_
   have hmt0:cn (bw sp l0 k0 j).1.1 (bw sp l0 k0 j).1.2=true:=by simpa using h315
   have hgo:qj sp l0 k0 most j=true:=by unfold qj;rw [hmt0,Bool.true_and,decide_eq_true_eq];omega
   refine jU 111200 ?_
   refine ar (hZ (i:=0) rfl rfl (by assumption) rfl (hf (bw sp l0 k0 j).1.1 (bw sp l0 k0 j).1.2 hjl (by have h1:ec (bw sp l0 k0 j).1.1 (bw sp l0 k0 j).1.2=cm (bw sp l0 k0 j).1.1+1:=(by unfold ec;rw [if_pos (kM hmt0).1]);omega) hmt0) (.cons cP .nil) rfl rfl ?_)
   rintro _ _ ⟨rfl,rfl⟩
   refine ⟨_,rfl,?_⟩
   refine ak (aU 2 2 dH fun p3=>?_)
   refine ar (av (ge 2 fm ([],[])) (l2:=[(sp (bw sp l0 k0 j).1.1 (bw sp l0 k0 j).1.2).2]) rfl rfl rfl rfl (by exact Nat.le_refl _) (fun _ _=>cZ) (aY rfl (.inl rfl) jD) rfl (fun j hj=>by rcases j with _|_|j <;> first|exact cZ|(exfalso;simp at hj <;> omega)) Tryz.underlying210 sZ sS dH tw rfl (by (simp;omega)) (by (simp;omega)) (bi rfl rfl) rfl rfl rfl (fun p4=>?_))
   refine jU 840051 ?_
   refine aw ((j+1,p4)) ?_ ?_ (h5:=?_) (h7:=?_)
   ·exact fun i hi=>if h:i<j then hj i h else (by obtain rfl:i=j:=(by have hi:i<j+1:=hi;omega);exact hgo)
   ·exact ok.mu _ _ jO (by unfold qj at hgo;rw [Bool.and_eq_true] at hgo;exact hgo.1)
   ·exact .cons (cO rfl) .nil
   ·exact aS.refl _
  refine jU 16 ?_;refine jq (dy 2) ?_
  refine ar (aJ 0 (xN n (bw sp l0 k0 j).1.1 (bw sp l0 k0 j).1.2 3) ?_)
  refine jU 84000200080000200060005 ?_
  first
   |(have hmt:cn (bw sp l0 k0 j).1.1 (bw sp l0 k0 j).1.2=true:=by simpa using h315
     have hkz:=(kM hmt).1
     rw [if_pos hkz]
     have hstop:jG sp l0 k0 most=j:=sv ok jO hj (by unfold qj;rw [hmt,Bool.true_and,decide_eq_false_iff_not];omega)
     have hE:dA n (cQ (bw sp l0 k0 j).1.1 3) (bc (bw sp l0 k0 j).1.1 3)=dA n (fh sp l0 k0 most).1 (fh sp l0 k0 most).2:=by
      unfold fh
      rw [hstop]
      dsimp only
      rw [if_pos hmt])
   |(have hmf:cn (bw sp l0 k0 j).1.1 (bw sp l0 k0 j).1.2=false:=by simpa using h315
     have hstop:jG sp l0 k0 most=j:=sv ok jO hj (by unfold qj;rw [hmf];rfl)
     have hE:dA n (cQ (bw sp l0 k0 j).1.1 (bw sp l0 k0 j).1.2) (bc (bw sp l0 k0 j).1.1 (bw sp l0 k0 j).1.2)=dA n (fh sp l0 k0 most).1 (fh sp l0 k0 most).2:=by
      unfold fh
      rw [hstop]
      dsimp only
      rw [if_neg (by rw [hmf];simp)])
  refine jU 16 ?_
  refine ar (aJ 0 (jH n (bw sp l0 k0 j).1.1 _ jO) ?_)
  refine jU 75 ?_
  dsimp only
  rw [hE,hstop]
  refine bK 0 rfl fun gl=>?_;refine jU 5500000501004016 ?_;refine aq (fun h323=>?_) fun h323=>?_
  ·refine jE (cS n (fh sp l0 k0 most).2 (fh sp l0 k0 most).1 0 2 rfl rfl rfl (cO rfl) cZ (Nat.le_refl _) (fun _ _=>cZ)) ?_;refine jU 30007000516 ?_
   exact bo (.inl rfl) [0] jD rfl (aA rfl (aP rfl)) (m:=iw []) (ab.nilS' rfl) ⟨by rw [jK],rfl⟩
  refine jU 810 ?_;refine jE (cS n (fh sp l0 k0 most).2 (fh sp l0 k0 most).1 0 2 rfl rfl rfl (cO rfl) cZ (Nat.le_refl _) (fun _ _=>cZ)) ?_;refine jU 5116 ?_;refine jE (freeze 1 rfl) ?_;refine jE (eP 8 (fun a b=>fm ((bw sp l0 k0 j).2.getD a ([],[])) b) rfl rfl jO (fun a b ha hb=>ab.of_eq (by rw [Nat.zero_add,gL hb]))) ?_;refine jU 7000 ?_
  exact bo (.inl rfl) [0] jD rfl (aA rfl (aP rfl)) (m:=iw (bw sp l0 k0 j).2) cZ ⟨by rw [jP],rfl⟩
theorem Lw {gs:List Nat} [fZ gs] (n:Nat) (l:List (List UInt8)) (k:Nat) (hl:0<l.length∧l.length≤1000000) (hb:(aD l).length≤10000000):AC gs Tryz.prog 231 [dA n l k] [.op 0 (some n) 0] (fun r H'=>r=au (aa aO l k).v.t∧H'=[dA n (aa aO l k).l (aa aO l k).k]):=by
 have h:=H5 (gs:=gs) n l k hl hb
 rw [ln vT [] rfl (t:=6) (f:=dM) jD jD jD (by funext b;rfl) rfl]
 exact h
theorem GV {gs:List Nat} [fZ gs] [mm gs] (n:Nat) (l:List (List UInt8)) (k:Nat) (hl:0<l.length∧l.length≤1000000) (hb:(aD l).length≤10000000):AC gs Tryz.prog 121 [dA n l k] [.op 0 (some n) 0,.c (.int .i64 64)] (fun r H'=>r=au (aa aT l k).v.t∧H'=[dA n (aa aT l k).l (aa aT l k).k]):=by
 have h:=wN (gs:=gs) n l k 64 hl hb
 rw [ln vT [] rfl (t:=12) (f:=fun b=>(if aN b 64=0 then b else [],aN b 64)) jD jD jD (by funext b;rfl) rfl]
 exact h
theorem CD {l:List (List UInt8)} {k B:Nat} (h:ec l k≤B):cm l≤B:=by unfold ec at h;omega
theorem dP (a:AA) {l:List (List UInt8)} {k m B:Nat} (hl:0<l.length∧l.length≤m) (hb:ec l k≤B) (h2:a.kind≠2):(0<(aa a l k).l.length∧(aa a l k).l.length≤m+1)∧ec (aa a l k).l (aa a l k).k≤B:=by
 obtain ⟨a1,a2,a3,a4,a5,a6,a7⟩:=fU a (l:=l) (k:=k) hl.1
 refine ⟨?_,by omega⟩
 by_cases h1:a.kind=1
 ·obtain ⟨a41,a42⟩:=a4 h1
  by_cases h:(aa a l k).k=0
  ·have:=a41 h;omega
  ·have:=a42 h;omega
 ·have:=a6 h1 h2;omega
theorem bX {l:List (List UInt8)} {k B:Nat} (h:ec l k≤B):(aD l).length≤B:=Nat.le_trans (DR l) (CD h)
theorem Il {gs:List Nat} [fZ gs] [mm gs] (n:Nat) (l:List (List UInt8)) (k:Nat) (hl:0<l.length∧l.length≤200000) (hb:cm l≤100000):AC gs Tryz.prog 189 [dA n l k] [.op 0 (some n) 0] (fun r H'=>r=Ax (aj l k).2∧H'=[dA n (aj l k).1.1 (aj l k).1.2]):=by
 have m0:ec l k≤100001:=by unfold ec;split <;> omega
 obtain ⟨f1,f2⟩:=eF aL rfl l k
 obtain ⟨l1,m1⟩:=dP aL hl m0 jD
 obtain ⟨l2,m2⟩:=dP aO l1 m1 jD
 obtain ⟨l3,m3⟩:=dP aT l2 m2 jD
 obtain ⟨f3,f4⟩:=dK aE rfl (aa aT (aa aO (aa aL l k).l (aa aL l k).k).l (aa aO (aa aL l k).l (aa aL l k).k).k).l (aa aT (aa aO (aa aL l k).l (aa aL l k).k).l (aa aO (aa aL l k).l (aa aL l k).k).k).k
 have n0:=bX m0
 have n1:=bX m1
 have n2:=bX m2
 have n3:=bX m3
 have hE:AC gs Tryz.prog 64 [dA n l k] [.op 0 (some n) 0,.c (.int .i64 48)] (fun r H'=>r=.c (.bool (ag 48 l k).is)∧H'=[dA n (aa aL l k).l (aa aL l k).k]):=by
  rw [f1,f2]
  exact kV n l k 48 jO jO
 have hL:=jH (gs:=gs) n (aa aT (aa aO (aa aL l k).l (aa aL l k).k).l (aa aO (aa aL l k).l (aa aL l k).k).k).l (aa aT (aa aO (aa aL l k).l (aa aL l k).k).l (aa aO (aa aL l k).l (aa aL l k).k).k).k jO
 rw [← f3,← f4] at hL
 refine ai 14 Tryz.func189 fun al w0 F0 St0=>?_;refine cy ?_
 refine ak (bD (n:=2) dH rfl fun p1=>?_)
 refine jU 165 ?_
 refine ar (aJ 0 hE ?_)
 refine jU 165 ?_
 refine ar (aJ 0 (Lw n (aa aL l k).l (aa aL l k).k jO jO) ?_)
 refine jU 1 ?_
 refine ar (aJ 0 (GV n (aa aO (aa aL l k).l (aa aL l k).k).l (aa aO (aa aL l k).l (aa aL l k).k).k jO jO) ?_)
 refine jq (ae (n:=2) rfl dH pC rfl rfl) ?_
 refine ak (bD (n:=2) dH rfl fun p5=>?_)
 refine ar (ax 2 ?_)
 refine jU 165 ?_
 refine ar (aJ 0 hL ?_)
 refine jU 65 ?_;refine eL (aV 2) ?_
 refine ar (ax 2 ?_)
 refine jU 70005 ?_
 exact ba (.inl rfl) rfl (aA rfl (bz 2)) (ab.agg rfl (fun j hj=>by rcases j with _|_|j <;> first|exact cZ|omega))
set_option maxHeartbeats 1000000 in
theorem LF (n:Nat) (l:List (List UInt8)) (k:Nat) (hl:0<l.length∧l.length≤100000) (hb:cm l≤100000):AC gs Tryz.prog 116 [dA n l k] [.op 0 (some n) 0] (fun r H'=>r=lR (eS l k).2∧H'=[dA n (eS l k).1.1 (eS l k).1.2]):=by
 have hR:=KW (gs:=gs) (f:=189) (by kernel_rfl) n l k 48 8 gz hl hb (fun l k h1 h2 _=>Il n l k h1 h2)
 have hlen:(kN l k).length≤1000000:=by
  have h1:=qU (sp:=aj) (l0:=an 48 l k) (k0:=(ag 48 l k).k) (most:=8) gz (by
   obtain ⟨_,_,_,e4,e5,_⟩:=mh (t:=48) (l:=l) (k:=k) hl.1
   by_cases h0:(ag 48 l k).k=0
   ·rw [e4 h0];omega
   ·rw [e5 h0];omega)
  have h2:=qt aj (an 48 l k) (ag 48 l k).k (jG aj (an 48 l k) (ag 48 l k).k 8)
  have h3:(kN l k).length=jG aj (an 48 l k) (ag 48 l k).k 8:=h2
  rw [h3]
  rcases Nat.eq_zero_or_pos (jG aj (an 48 l k) (ag 48 l k).k 8) with hz|hz
  ·omega
  ·have hg:=h1.1 (jG aj (an 48 l k) (ag 48 l k).k 8-1) jO
   unfold qj at hg
   rw [Bool.and_eq_true,decide_eq_true_eq] at hg
   omega
 have hR':AC gs Tryz.prog 188 [dA n l k] [.op 0 (some n) 0,.c (.int .i64 48),.c (.int .i64 8),.fn 189 0 fun _=>.top] (fun r H'=>r=iw (if (ez l k).2=0 then kN l k else [])∧H'=[dA n (ez l k).1 (ez l k).2]):=hR
 have hO:=N5 (gs:=gs) (kN l k) hlen
 refine ai 21 Tryz.func116 fun al w0 F0 St0=>?_;refine cy ?_
 refine ak (bD (n:=3) nH rfl fun p1=>?_)
 refine jU 165 ?_
 refine ar (aJ 0 (hR') ?_ (ho:=rfl) (he:=(.cons (se rfl cP) (.cons (se rfl cZ) (.cons (se rfl cZ) (.cons (se rfl ab.fn0) .nil))))))
 refine jU 16751 ?_
 refine ar (aJ 0 (Jn n (ez l k).1 (ez l k).2) ?_)
 refine jU 5500000 ?_;refine aq (fun h117=>?_) fun h117=>?_
 ·refine cy ?_;refine jq (ae (n:=3) rfl nH Av rfl rfl) ?_
  refine ar (ax 3 ?_)
  refine jU 300070005 ?_
  rw [show eS l k=(ez l k,bA) by unfold eS;rw [jP]]
  exact ba (.inl rfl) rfl (aA rfl (bz 3)) (ab.agg rfl (fun j hj=>by rcases j with _|_|_|j <;> first|exact cZ|omega))
 refine jU 810 ?_
 have hz:(ez l k).2=0:=by omega
 rw [if_pos hz]
 refine jU 16 ?_
 refine ak (ap hO ?_)
 refine jU 9009001 ?_
 refine ak (bD (n:=3) nH rfl fun p4=>?_)
 refine ar (ax 3 ?_)
 refine jU 11651 ?_
 refine ar (aJ 0 (xN n (ez l k).1 (ez l k).2 (kJ (kN l k)).2) ?_)
 refine jU 65 ?_;refine eL (aV 3) ?_
 refine ar (ax 3 ?_)
 refine jU 70005 ?_
 rw [if_pos hz,show eS l k=(((ez l k).1,(kJ (kN l k)).2),(kJ (kN l k)).1) by unfold eS;rw [jK]]
 exact ba (.inl rfl) rfl (aA rfl (bz 3)) (ab.agg rfl (fun j hj=>by rcases j with _|_|_|j <;> first|exact cZ|omega))
theorem I7 (l:List (List UInt8)) (k:Nat) (hl:0<l.length):0<(eS l k).1.1.length∧(eS l k).1.1.length≤l.length+17:=by
 have hE:(eS l k).1.1=(ez l k).1:=by unfold eS;split <;> rfl
 have he:0<(an 48 l k).length∧(an 48 l k).length≤l.length+1:=by
  obtain ⟨_,_,_,e4,e5,_⟩:=mh (t:=48) (l:=l) (k:=k) hl
  by_cases h0:(ag 48 l k).k=0
  ·rw [e4 h0];omega
  ·rw [e5 h0];omega
 have hs:=qU (sp:=aj) (l0:=an 48 l k) (k0:=(ag 48 l k).k) (most:=8) gz he.1
 have hb:=pO (sp:=aj) (l0:=an 48 l k) (k0:=(ag 48 l k).k) (most:=8) gz he.1 _ hs.1
 have lv:∀ (l':List (List UInt8)) (k':Nat),0<l'.length→0<(cQ l' k').length∧(cQ l' k').length≤l'.length:=fun l' k' h=>by
  obtain ⟨_,_,f3,f4⟩:=gI (l:=l') (k:=k') h
  by_cases h0:bc l' k'=0
  ·have:=f3 h0;omega
  ·rw [f4 h0];omega
 rw [hE]
 unfold ez fh
 dsimp only
 split
 ·have:=lv (bw aj (an 48 l k) (ag 48 l k).k (jG aj (an 48 l k) (ag 48 l k).k 8)).1.1 3 jO
  dsimp only
  omega
 ·have:=lv (bw aj (an 48 l k) (ag 48 l k).k (jG aj (an 48 l k) (ag 48 l k).k 8)).1.1 (bw aj (an 48 l k) (ag 48 l k).k (jG aj (an 48 l k) (ag 48 l k).k 8)).1.2 jO
  dsimp only
  omega
end
section
open Go.RowKit Cal
structure Fd where
 call:Int
 least:Int
 most:Int
structure V4 where
 n:Int
 t:List UInt8
 b:List UInt8
 who:S3
def V4.z:V4:=⟨0,[],[],bA⟩
def fD (f:Fd):Prop:=f.call=0∨((f.call=3∨f.call=4)∧-9223372036854775808≤f.least∧f.most≤9223372036854775807)∨(f.call=6∧0≤f.least∧f.most≤4096)∨(f.call=7∧f.most=24)∨f.call=9
def iS (f:Fd) (v:V4):Prop:=(f.call=0∧v=⟨0,[],[],v.who⟩∧bx v.who=true)∨((f.call=3∨f.call=4)∧v=⟨v.n,[],[],bA⟩∧f.least≤v.n∧v.n≤f.most) ∨
 (f.call=6∧v=⟨0,[],v.b,bA⟩∧f.least≤(v.b.length:Nat)∧(v.b.length:Nat)≤f.most)∨(f.call=7∧v=⟨0,v.t,[],bA⟩∧aN v.t 24=0)∨(f.call=9∧v=⟨v.n,[],[],bA⟩∧ol v.n)
def kT (f:Fd) (v:V4):VV:=if f.call=7 then ⟨7,24,false,[],v.t⟩ else ⟨f.call,v.n,false,v.b,[]⟩
def OD (f:Fd) (v:V4):Int×List UInt8:=if f.call=0 then O1 v.who else ((aH (kT f v)).1,(aH (kT f v)).2.1)
def ro (f:Fd) (v:V4):List UInt8:=pz (OD f v)
def lr (f:Fd) (v:V4) (w:W8):W8:=if f.call=0 then wv v.who w else jj (kT f v) w
def lL (f:Fd) (v:V4) (r:R8):R8:=if f.call=0 then kH v.who r else cD (kT f v) r
def ld (f:Fd):AA:=⟨f.call,0,f.least,f.most⟩
def aZ (f:Fd):nA V4:=fun l k=>if f.call=0 then ((eS l k).1,⟨0,[],[],(eS l k).2⟩) else (((aa (ld f) l k).l,(aa (ld f) l k).k),⟨(aa (ld f) l k).v.n,(aa (ld f) l k).v.t,(aa (ld f) l k).v.b,bA⟩)
theorem iC {f:Fd} {v:V4} (ho:fD f) (h:iS f v) (h0:f.call≠0):(3≤f.call∧f.call≤10)∧(kT f v).kind=f.call∧(aH (kT f v)).1=bO (ld f)∧(aH (kT f v)).2.2=0∧(aH (kT f v)).2.1.length≤4096∧saidM (ld f) (aH (kT f v)).2.1=(⟨0,v.n,false,v.b,v.t⟩,0) ∧
  (-9223372036854775808≤(kT f v).n∧(kT f v).n≤9223372036854775807)∧(kT f v).t.length≤300∧(kT f v).b.length≤4096∧v.who=bA:=by
 obtain ⟨c,least,most⟩:=f
 obtain ⟨n,t,b,who⟩:=v
 unfold fD iS at *
 dsimp only at ho h h0
 rcases h with h|⟨hc,hv,h1,h2⟩|⟨hc,hv,h1,h2⟩|⟨hc,hv,h1⟩|⟨hc,hv,h1⟩
 ·exact absurd h.1 h0
 ·obtain ⟨_,rfl,rfl,rfl⟩:=(V4.mk.injEq _ _ _ _ _ _ _ _).mp hv
  have hb:-9223372036854775808≤n∧n≤9223372036854775807:=by omega
  have hg:=At hb.1 hb.2
  have hl:=(n8 n hb.1 hb.2).2
  have hr:aI (fa n) least most=(n,0):=by
   unfold aI
   rw [hg,if_neg (by simp),if_neg (by dsimp only;omega)]
  rcases hc with rfl|rfl
  ·have e:aH (kT ⟨3,least,most⟩ ⟨n,[],[],bA⟩)=(2,fa n,0):=rfl
   refine ⟨by constructor <;> (dsimp only;omega),rfl,rfl,rfl,by rw [e];dsimp only;omega,?_,hb,by simp [kT],by simp [kT],rfl⟩
   rw [e]
   show (vN (aI (fa n) least most).1,(aI (fa n) least most).2)=_
   rw [hr];rfl
  ·have e:aH (kT ⟨4,least,most⟩ ⟨n,[],[],bA⟩)=(10,fa n,0):=rfl
   refine ⟨by constructor <;> (dsimp only;omega),rfl,rfl,rfl,by rw [e];dsimp only;omega,?_,hb,by simp [kT],by simp [kT],rfl⟩
   rw [e]
   show (vN (aI (fa n) least most).1,(aI (fa n) least most).2)=_
   rw [hr];rfl
 ·obtain ⟨rfl,rfl,_,rfl⟩:=(V4.mk.injEq _ _ _ _ _ _ _ _).mp hv
  subst hc
  have e:aH (kT ⟨6,least,most⟩ ⟨0,[],b,bA⟩)=(4,b,0):=rfl
  have hl:b.length≤4096:=by omega
  refine ⟨by constructor <;> (dsimp only;omega),rfl,rfl,rfl,by rw [e];exact hl,?_,by show (-9223372036854775808:Int)≤0∧(0:Int)≤9223372036854775807;decide,by simp [kT],hl,rfl⟩
  rw [e]
  show (vB (jF least most b).1,(jF least most b).2)=_
  unfold jF
  rw [jK,jK]
  rfl
 ·obtain ⟨rfl,_,rfl,rfl⟩:=(V4.mk.injEq _ _ _ _ _ _ _ _).mp hv
  subst hc
  have hm:most=24:=by omega
  subst hm
  have hl:=sO h1
  have e:aH (kT ⟨7,least,24⟩ ⟨0,t,[],bA⟩)=(12,t,0):=by
   show ((12:Int),(if aN t 24=0 then t else []),aN t 24)=_
   rw [h1,if_pos rfl]
  refine ⟨by constructor <;> (dsimp only;omega),rfl,by rw [e];rfl,by rw [e],by rw [e];dsimp only;omega,?_,by show (-9223372036854775808:Int)≤24∧(24:Int)≤9223372036854775807;decide,by show t.length≤300;omega,by simp [kT],rfl⟩
  rw [e]
  show (vT (if aN t 24=0 then t else []),aN t 24)=_
  rw [h1,if_pos rfl];rfl
 ·obtain ⟨_,rfl,rfl,rfl⟩:=(V4.mk.injEq _ _ _ _ _ _ _ _).mp hv
  subst hc
  have ho6:kA n=u5 n:=by unfold kA;rw [if_pos h1]
  have hq:=o9 h1
  have e:aH (kT ⟨9,least,most⟩ ⟨n,[],[],bA⟩)=(24,cW (kA n),0):=by
   show ((24:Int),(if ol n then cW (kA n) else []),Az n)=_
   unfold Az
   rw [if_pos h1,if_pos h1]
  refine ⟨by constructor <;> (dsimp only;omega),rfl,by rw [e];rfl,by rw [e],by rw [e];exact Nat.le_of_ble_eq_true rfl,?_,by have h1':=h1;unfold ol at h1';show _≤n∧n≤_;omega,by simp [kT],by simp [kT],rfl⟩
  rw [e]
  show (vN (gJ (cW (kA n))),gV (cW (kA n)))=_
  rw [ho6,(Ba hq.1).1,(Ba hq.1).2,hq.2];rfl
theorem vL {f:Fd} {v:V4} (ho:fD f) (h:iS f v) (h0:f.call≠0):ro f v=dl (bO (ld f)) (aH (kT f v)).2.1:=by
 unfold ro OD pz
 rw [if_neg h0]
 dsimp only
 rw [(iC ho h h0).2.2.1]
theorem vM {f:Fd} {v:V4} (h0:f.call=0):ro f v=EC v.who:=by
 unfold ro OD
 rw [if_pos h0];rfl
theorem vp {f:Fd} {v:V4} (h:iS f v) (h0:f.call=0):v=⟨0,[],[],v.who⟩∧bx v.who=true:=by
 unfold iS at h
 rcases h with h|h|h|h|h
 ·exact h.2
 all_goals (exfalso;omega)
theorem vD {f:Fd} (ho:fD f) {ls:List (List UInt8)} {x:List UInt8} {k:Nat} (h:(aZ f (ls++[x]) k).1.2=0):k=0∧∃ v r,iS f v∧x=ro f v++r∧aZ f (ls++[x]) k=((ls++[r],0),v):=by
 unfold aZ at h ⊢
 by_cases h0:f.call=0
 ·rw [if_pos h0] at h ⊢
  obtain ⟨h1,s,r,h2,h3,h4⟩:=F8 h
  refine ⟨h1,⟨0,[],[],s⟩,r,.inl ⟨h0,rfl,h2⟩,by rw [h3,vM h0],by rw [h4]⟩
 ·rw [if_neg h0] at h ⊢
  dsimp only at h
  have ha:3≤(ld f).kind∧(ld f).kind≤10:=by unfold fD at ho;show 3≤f.call∧f.call≤10;omega
  obtain ⟨h1,b,r,h2,h3,h4,h5⟩:=oX ha h
  have key:∀ v:V4,iS f v→(aH (kT f v)).2.1=b→(saidM (ld f) b).1.n=v.n→(saidM (ld f) b).1.t=v.t→(saidM (ld f) b).1.b=v.b→v.who=bA→k=0∧∃ v r,iS f v∧x=ro f v++r∧(((aa (ld f) (ls++[x]) k).l,(aa (ld f) (ls++[x]) k).k),V4.mk (aa (ld f) (ls++[x]) k).v.n (aa (ld f) (ls++[x]) k).v.t (aa (ld f) (ls++[x]) k).v.b bA)=((ls++[r],0),v):=fun v hg hb hn ht hbb hw=>by
   refine ⟨h1,v,r,hg,by rw [h2,vL ho hg h0,hb],?_⟩
   rw [h5]
   dsimp only
   rw [hn,ht,hbb,← hw]
  obtain ⟨c,least,most⟩:=f
  unfold fD at ho
  dsimp only at ho h0
  rcases ho with ho|⟨ho,ho1,ho2⟩|⟨ho,ho1,ho2⟩|⟨ho,ho1⟩|ho
  ·exact absurd ho h0
  ·rcases ho with rfl|rfl
   ·obtain ⟨c1,c2,c3,c4,c5⟩:=lp (b:=b) (x:=least) (y:=most) h4
    exact key ⟨(aI b least most).1,[],[],bA⟩ (.inr (.inl ⟨.inl rfl,rfl,by show least≤(aI b least most).1;omega,by show (aI b least most).1≤most;omega⟩)) c1 rfl rfl rfl rfl
   ·obtain ⟨c1,c2,c3,c4,c5⟩:=lp (b:=b) (x:=least) (y:=most) h4
    exact key ⟨(aI b least most).1,[],[],bA⟩ (.inr (.inl ⟨.inr rfl,rfl,by show least≤(aI b least most).1;omega,by show (aI b least most).1≤most;omega⟩)) c1 rfl rfl rfl rfl
  ·subst ho
   have h4':(jF least most b).2=0:=h4
   have hm:(saidM ⟨6,0,least,most⟩ b).1=vB (jF least most b).1:=rfl
   unfold jF at h4' hm
   by_cases e1:(b.length:Int)<least
   ·rw [if_pos e1] at h4';cases h4'
   ·by_cases e2:most<(b.length:Int)
    ·rw [if_neg e1,if_pos e2] at h4';cases h4'
    ·rw [if_neg e1,if_neg e2] at hm
     refine key ⟨0,[],b,bA⟩ (.inr (.inr (.inl ⟨rfl,rfl,by show least≤((b.length:Nat):Int);omega,by show ((b.length:Nat):Int)≤most;omega⟩))) rfl ?_ ?_ ?_ rfl <;> (show _=_;rw [show (ld ⟨6,least,most⟩)=⟨6,0,least,most⟩ from rfl,hm];rfl)
  ·subst ho
   subst ho1
   have h4':aN b 24=0:=h4
   have hm:(saidM ⟨7,0,least,24⟩ b).1=vT b:=by show vT (if aN b 24=0 then b else [])=_;rw [if_pos h4']
   refine key ⟨0,b,[],bA⟩ (.inr (.inr (.inr (.inl ⟨rfl,rfl,h4'⟩)))) ?_ ?_ ?_ ?_ rfl
   ·show (if aN b 24=0 then b else [])=b;rw [if_pos h4']
   all_goals (rw [show (ld ⟨7,least,24⟩)=⟨7,0,least,24⟩ from rfl,hm];rfl)
  ·subst ho
   have h4':gV b=0:=h4
   obtain ⟨c1,c2⟩:=yM h4'
   refine key ⟨gJ b,[],[],bA⟩ (.inr (.inr (.inr (.inr ⟨rfl,rfl,c2⟩)))) ?_ rfl rfl rfl rfl
   show (if ol (gJ b) then cW (kA (gJ b)) else [])=b
   rw [if_pos c2,c1]
theorem sD (f:Fd) (ho:fD f) {l:List (List UInt8)} {k:Nat} (hl:0<l.length):(0<(aZ f l k).1.1.length∧(aZ f l k).1.1.length≤l.length+17)∧((aZ f l k).1.2=0→k=0):=by
 obtain ⟨ls,x,rfl⟩:∃ ls x,l=ls++[x]:=⟨l.dropLast,l.getLast (List.length_pos_iff.1 hl),(List.dropLast_concat_getLast _).symm⟩
 refine ⟨?_,fun h=>(vD ho h).1⟩
 unfold aZ
 by_cases h0:f.call=0
 ·rw [if_pos h0];exact I7 _ _ hl
 ·rw [if_neg h0]
  have hk:(ld f).kind=f.call:=rfl
  obtain ⟨_,_,_,_,_,h6,_⟩:=fU (ld f) (l:=ls++[x]) (k:=k) hl
  have:=h6 (by unfold fD at ho;rw [hk];omega) (by unfold fD at ho;rw [hk];omega)
  dsimp only
  omega
theorem Mj {f:Fd} {v:V4} (ho:fD f) (h:iS f v):(ro f v).length≤4110∧0<(ro f v).length∧Na 3 (OD f v):=by
 refine ⟨?_,zd _,?_⟩
 ·by_cases h0:f.call=0
  ·rw [vM h0]
   have:=(yk (vp h h0).2).2
   omega
  ·rw [vL ho h h0]
   have h1:=jC (bO (ld f)) (aH (kT f v)).2.1
   have h2:=(iC ho h h0).2.2.2.2.1
   omega
 ·by_cases h0:f.call=0
  ·have h2:=(vp h h0).2
   obtain ⟨g1,g2⟩:=i9 h2
   obtain ⟨l1,l2⟩:=yk h2
   unfold OD
   rw [if_pos h0]
   refine AQ (d:=2) jD jD jD (fun x hx=>?_) jO
   obtain ⟨p,hp,rfl⟩:=List.mem_map.1 hx
   obtain ⟨h3,h4,h5⟩:=g1 p hp
   obtain ⟨m1,m2,m3⟩:=r7 h3 jO
   refine AQ (d:=1) jD jD jD (fun x hx=>?_) jO
   simp only [jZ,List.mem_cons,List.not_mem_nil,or_false] at hx
   rcases hx with rfl|rfl
   ·exact si jD jD jO
   ·exact si jD jD jO
  ·obtain ⟨b1,b2,b3,b4,b5,_⟩:=iC ho h h0
   have ht:=OZ (v:=kT f v) (by rw [b2];exact b1)
   unfold OD
   rw [if_neg h0]
   exact (si ht.1 ht.2.1 jO).mono jD
def am:List Fd→nA (List V4)
 | [],l,k=>((l,k),[])
 | f::fs,l,k=>((am fs (aZ f l k).1.1 (aZ f l k).1.2).1,(aZ f l k).2::(am fs (aZ f l k).1.1 (aZ f l k).1.2).2)
def nv:List Fd→List V4→List UInt8
 | f::fs,v::vs=>ro f v++nv fs vs
 | _,_=>[]
def eY:List Fd→List V4→Prop
 | [],[]=>True
 | f::fs,v::vs=>iS f v∧eY fs vs
 | _,_=>False
def mI:List Fd→List V4→W8→W8
 | f::fs,v::vs,w=>mI fs vs (lr f v w)
 | _,_,w=>w
def ko:List Fd→List V4→R8→R8
 | f::fs,v::vs,r=>ko fs vs (lL f v r)
 | _,_,r=>r
theorem tf:∀ {fs:List Fd} {vs:List V4},eY fs vs→fs.length=vs.length
 | [],[],_=>rfl
 | f::fs,v::vs,h=>by simp [tf h.2]
 | [],v::vs,h=>h.elim
 | f::fs,[],h=>h.elim
theorem jL:∀ (fs:List Fd) {l:List (List UInt8)} {k:Nat},(∀ f ∈ fs,fD f)→0<l.length→((am fs l k).1.2=0→k=0)∧(0<(am fs l k).1.1.length∧(am fs l k).1.1.length≤l.length+17 * fs.length)
 | [],l,k,_,hl=>⟨fun h=>h,hl,Nat.le_refl _⟩
 | f::fs,l,k,ho,hl=>by
  obtain ⟨h1,h2⟩:=sD f (ho f List.mem_cons_self) (k:=k) hl
  obtain ⟨h3,h4⟩:=jL fs (k:=(aZ f l k).1.2) (fun g hg=>ho g (List.mem_cons_of_mem _ hg)) h1.1
  refine ⟨fun h=>h2 (h3 h),h4.1,?_⟩
  have:=h4.2
  rw [List.length_cons]
  show (am fs (aZ f l k).1.1 (aZ f l k).1.2).1.1.length≤_
  omega
theorem tq:∀ {fs:List Fd} {ls:List (List UInt8)} {x:List UInt8} {k:Nat},(∀ f ∈ fs,fD f)→(am fs (ls++[x]) k).1.2=0→k=0∧∃ vs r,eY fs vs∧x=nv fs vs++r∧am fs (ls++[x]) k=((ls++[r],0),vs)
 | [],ls,x,k,_,h=>⟨h,[],x,trivial,rfl,by have h:k=0:=h;subst h;rfl⟩
 | f::fs,ls,x,k,ho,h=>by
  have hl:=sD f (ho f List.mem_cons_self) (l:=ls++[x]) (k:=k) (by simp)
  have h':(am fs (aZ f (ls++[x]) k).1.1 (aZ f (ls++[x]) k).1.2).1.2=0:=h
  have h1:=(jL fs (fun g hg=>ho g (List.mem_cons_of_mem _ hg)) hl.1.1).1 h'
  obtain ⟨hk,v,r,g1,g2,g3⟩:=vD (ho f List.mem_cons_self) h1
  rw [g3] at h'
  obtain ⟨_,vs,r2,g4,g5,g6⟩:=tq (fun g hg=>ho g (List.mem_cons_of_mem _ hg)) h'
  refine ⟨hk,v::vs,r2,⟨g1,g4⟩,?_,?_⟩
  ·rw [g2,g5]
   show _=(ro f v++nv fs vs)++r2
   rw [List.append_assoc]
  ·unfold am
   rw [g3]
   dsimp only
   rw [g6]
theorem xS:∀ {fs:List Fd} {vs:List V4},(∀ f ∈ fs,fD f)→eY fs vs→(nv fs vs).length≤4110 * fs.length
 | [],[],_,_=>Nat.le_refl _
 | f::fs,v::vs,ho,h=>by
  have h1:=(Mj (ho f List.mem_cons_self) h.1).1
  have h2:=xS (fun g hg=>ho g (List.mem_cons_of_mem _ hg)) h.2
  show (ro f v++nv fs vs).length≤_
  rw [List.length_append,List.length_cons]
  omega
 | [],v::vs,_,h=>h.elim
 | f::fs,[],_,h=>h.elim
theorem HQ {f:Fd} {v:V4} (ho:fD f) (h:iS f v) {w:W8} (hk:w.k=0) (hf:w.fr.length<15):lr f v w=cG (ro f v) w:=by
 unfold lr
 by_cases h0:f.call=0
 ·rw [if_pos h0,vM h0,Lp (vp h h0).2 hk hf]
 ·obtain ⟨b1,b2,b3,b4,b5,_⟩:=iC ho h h0
  have ht:=OZ (v:=kT f v) (by rw [b2];exact b1)
  rw [if_neg h0,vL ho h h0,Mp (by rw [b2];exact b1),b4,uX hk ht.1 jO,b3]
theorem xd:∀ {fs:List Fd} {vs:List V4},(∀ f ∈ fs,fD f)→eY fs vs→∀ {ls:List (List UInt8)} {d:List UInt8},∃ ls',mI fs vs ⟨[(48,ls)],d,0⟩=⟨[(48,ls')],d,0⟩∧ls'.flatten=ls.flatten++nv fs vs
 | [],[],_,_,ls,d=>⟨ls,rfl,by simp [nv]⟩
 | f::fs,v::vs,ho,h,ls,d=>by
  obtain ⟨ls',h1,h2⟩:=xd (fun g hg=>ho g (List.mem_cons_of_mem _ hg)) h.2 (ls:=ls++[ro f v]) (d:=d)
  refine ⟨ls',?_,?_⟩
  ·show mI fs vs (lr f v ⟨[(48,ls)],d,0⟩)=_
   rw [HQ (ho f List.mem_cons_self) h.1 rfl (by simp),ub]
   exact h1
  ·rw [h2]
   show _=_++(ro f v++nv fs vs)
   simp
 | [],v::vs,_,h,_,_=>h.elim
 | f::fs,[],_,h,_,_=>h.elim
theorem i6 {f:Fd} {v:V4} (ho:fD f) (h:iS f v) {i:Nat} {r:R8} {w:W8} (hI:ie i r w):ie (i+14) (lL f v r) (lr f v w):=by
 unfold lL lr
 by_cases h0:f.call=0
 ·rw [if_pos h0,if_pos h0]
  exact IR hI v.who
 ·obtain ⟨b1,b2,b3,b4,b5,b6,b7,b8,b9,b10⟩:=iC ho h h0
  rw [if_neg h0,if_neg h0]
  exact LZ hI b7 b8 (by rw [b2];exact b1) jD jO
end
section
def mB (at_:Nat):Nat:=if at_=0 then 2147483727 else 2147483647
def oo (l:List Nat) (p:List Nat×Nat):List Nat×Nat:=if p.2≠0 then ([],p.2) else (l++p.1,0)
theorem Ih {most:Nat} {b:List UInt8} {e:Nat} (h:b≠[]) (he:(dC (b.take (bn b)) most).2=e) (h0:e≠0):cL most b=([],e):=by
 rw [cL,dif_neg h,he,if_pos h0]
theorem Fx {most:Nat} {b:List UInt8} {n:Nat} (h:b≠[]) (he:dC (b.take (bn b)) most=(n,0)):cL most b=oo [n] (cL 2147483647 (b.drop (bn b))):=by
 rw [cL,dif_neg h,he,if_neg (by simp)]
 unfold oo
 split <;> rfl
theorem F6 (l:List Nat) (n:Nat) (p:List Nat×Nat):oo l (oo [n] p)=oo (l++[n]) p:=by
 unfold oo
 by_cases h:p.2≠0
 ·simp [h]
 ·simp [h]
theorem uz:∀ {l:List UInt8},(∀ c ∈ l,128≤c.toNat)→bn l=l.length
 | [],_=>rfl
 | c::l,h=>by
  have:=h c List.mem_cons_self
  rw [bn,jK,uz fun d hd=>h d (List.mem_cons_of_mem _ hd)]
  simp;omega
theorem qO {b:List UInt8} {a e:Nat} (he:e≤b.length) (h:∀ j,a≤j→j<e→128≤(b.getD j 0).toNat):∀ c ∈ (b.drop a).take (e-a),128≤c.toNat:=fun c hc=>by
 obtain ⟨k,hk⟩:=List.mem_iff_getElem?.1 hc
 rw [List.getElem?_take] at hk
 split at hk
 ·rename_i h1
  rw [List.getElem?_drop] at hk
  have:=h (a+k) jO jO
  rw [List.getD_eq_getElem?_getD,hk] at this
  exact this
 ·cases hk
theorem Hg {b:List UInt8} {a:Nat} (ha:a<b.length) (h:∀ j,a≤j→j<b.length→128≤(b.getD j 0).toNat) (most:Nat):(dC ((b.drop a).take (bn (b.drop a))) most).2=2:=by
 have hall:=qO (Nat.le_refl _) h
 rw [show (b.drop a).take (b.length-a)=b.drop a by rw [← List.length_drop,List.take_length]] at hall
 rw [uz hall,List.take_length]
 unfold dC
 have hl:0<(b.drop a).length:=by rw [List.length_drop];omega
 rw [if_pos (hall _ (by rw [List.getD_eq_getElem?_getD,List.getElem?_eq_getElem jO];exact List.getElem_mem _))]
theorem DA {b:List UInt8} {a e:Nat} (ha:a≤e) (he:e<b.length) (h:∀ j,a≤j→j<e→128≤(b.getD j 0).toNat) (hx:(b.getD e 0).toNat<128):bn (b.drop a)=e-a+1∧(b.drop a).take (e-a+1)=(b.drop a).take (e-a)++[b.getD e 0]:=by
 have hall:=qO jO h
 have hge:(b.drop a)[e-a]?=some (b.getD e 0):=by
  rw [List.getElem?_drop,show a+(e-a)=e by omega,List.getD_eq_getElem?_getD,List.getElem?_eq_getElem he];rfl
 have hlt:e-a<(b.drop a).length:=by rw [List.length_drop];omega
 have hd:b.drop a=(b.drop a).take (e-a)++b.getD e 0::(b.drop a).drop (e-a+1):=by
  conv=>lhs;rw [← List.take_append_drop (e-a) (b.drop a)]
  rw [List.drop_eq_getElem_cons hlt]
  congr 2
  have:=List.getElem?_eq_getElem hlt
  rw [hge] at this
  exact (Option.some.inj this).symm
 refine ⟨?_,?_⟩
 ·rw [hd,uy hall _ hx,List.length_take,List.length_drop]
  omega
 ·rw [List.take_succ_eq_append_getElem hlt]
  congr 2
  have:=List.getElem?_eq_getElem hlt
  rw [hge] at this
  exact (Option.some.inj this).symm
theorem Cx {b:List UInt8} {a e:Nat} {most:Nat} (ha:a≤e) (he:e<b.length) (h:∀ j,a≤j→j<e→128≤(b.getD j 0).toNat) (hx:(b.getD e 0).toNat<128) :
  dC ((b.drop a).take (bn (b.drop a))) most=if (b.getD a 0).toNat=128 then (0,4) else if most<cA ((b.drop a).take (e-a+1)) then (0,1) else (cA ((b.drop a).take (e-a+1)),0):=by
 obtain ⟨h1,h2⟩:=DA ha he h hx
 rw [h1]
 have hl:((b.drop a).take (e-a+1)).length=e-a+1:=by rw [List.length_take,List.length_drop];omega
 have hlast:((b.drop a).take (e-a+1)).getD (((b.drop a).take (e-a+1)).length-1) 0=b.getD e 0:=by
  rw [hl,h2,List.getD_eq_getElem?_getD,List.getElem?_append_right (by rw [List.length_take,List.length_drop];omega),List.length_take,List.length_drop]
  rw [show e-a+1-1-min (e-a) (b.length-a)=0 by omega]
  rfl
 have hfirst:((b.drop a).take (e-a+1)).getD 0 0=b.getD a 0:=by
  rw [List.getD_eq_getElem?_getD,List.getElem?_take,jP,List.getElem?_drop,Nat.add_zero,List.getD_eq_getElem?_getD]
 unfold dC
 rw [hlast,hfirst,jK]
theorem GM {b:List UInt8} {a k:Nat} (h:a+k<b.length):cA ((b.drop a).take (k+1))=cA ((b.drop a).take k) * 128+(b.getD (a+k) 0).toNat % 128:=by
 have hlt:k<(b.drop a).length:=by rw [List.length_drop];omega
 rw [List.take_succ_eq_append_getElem hlt,gc,List.getElem_drop,List.getD_eq_getElem?_getD,List.getElem?_eq_getElem h]
 rfl
theorem wQ {b:List UInt8} {a k e n M:Nat} (he:e<b.length) (hk:a+k≤e) (hk2:k≤e-a+1) (h1:n≤M→cA ((b.drop a).take k)=n) (h2:M<n→M<cA ((b.drop a).take k)) (h3:n≤M * 128+127) :
  k+1≤e-a+1∧((if n≤M then n * 128+(b.getD (a+k) 0).toNat % 128 else n)≤M→cA ((b.drop a).take (k+1))=if n≤M then n * 128+(b.getD (a+k) 0).toNat % 128 else n) ∧
   (M<(if n≤M then n * 128+(b.getD (a+k) 0).toNat % 128 else n)→M<cA ((b.drop a).take (k+1)))∧(if n≤M then n * 128+(b.getD (a+k) 0).toNat % 128 else n)≤M * 128+127:=by
 rw [GM jO]
 by_cases h:n≤M
 ·rw [if_pos h,h1 h]
  exact ⟨by omega,fun _=>rfl,fun h=>h,by omega⟩
 ·rw [if_neg h]
  have:=h2 jO
  exact ⟨by omega,fun h=>by omega,fun _=>by omega,h3⟩
def nD (l:List Nat):List Int:=l.map Int.ofNat
theorem Mc {b:List UInt8} {e:Nat} (hb:b≠[]) (h:cL 2147483727 b=([],e)) (he:e≠0):fg b=([],e):=by
 unfold fg
 rw [if_neg hb,h,if_pos he]
theorem Mb {b:List UInt8} {l:List Nat} (hb:b≠[]) (h:cL 2147483727 b=(l,0)):fg b=if cC (cw l)=false then ([],1) else (cw l,0):=by
 unfold fg
 rw [if_neg hb,h,if_neg (by simp)]
theorem y7 {l:List Int} {j:Nat}:kQ l (1+j)=kQ (l.drop 1) j:=by simp [kQ,List.getD_eq_getElem?_getD,Nat.add_comm 1 j]
structure OF (b:List UInt8) (a:Nat) (nums:List Nat):Prop where
 le:a≤b.length
 n0:nums.length≤a
 ne:a≠0→nums≠[]
 bd:∀ n ∈ nums,n≤2147483727
 eq:cL 2147483727 b=oo nums (cL (mB a) (b.drop a))
theorem J4 (b:List UInt8):OF b 0 []:=⟨Nat.zero_le _,Nat.le_refl _,fun h=>absurd rfl h,fun _ h=>by simp at h,by
 rw [List.drop_zero]
 show _=oo [] (cL 2147483727 b)
 unfold oo
 split
 ·rename_i h
  generalize hp:cL 2147483727 b=p at h ⊢
  obtain ⟨x,y⟩:=p
  have hx:x=[]:=by
   have hp':=hp
   rw [cL] at hp'
   split at hp'
   ·cases hp';rfl
   ·split at hp'
    ·cases hp';rfl
    ·split at hp'
     ·cases hp';rfl
     ·cases hp';exact absurd rfl h
  rw [hx]
 ·rename_i h
  generalize hp:cL 2147483727 b=p at h ⊢
  obtain ⟨x,y⟩:=p
  have:y=0:=by simpa using h
  rw [this];rfl⟩
theorem Ee {b:List UInt8} {a:Nat} (h:a<b.length):b.drop a≠[]:=fun e=>by
 have:=congrArg List.length e
 rw [List.length_drop] at this
 simp at this;omega
theorem zo {b:List UInt8} {a:Nat} {nums:List Nat} (h:OF b a nums) (ha:a<b.length) {e:Nat} (he:(dC ((b.drop a).take (bn (b.drop a))) (mB a)).2=e) (h0:e≠0):fg b=([],e):=by
 refine Mc (fun hb=>by rw [hb] at ha;simp at ha) ?_ h0
 rw [h.eq,Ih (Ee ha) he h0]
 unfold oo
 rw [if_pos h0]
theorem LC {r:List UInt8} {most n:Nat} (h:dC r most=(n,0)):n≤most:=by
 unfold dC at h
 split at h
 ·cases h
 ·split at h
  ·cases h
  ·split at h
   ·cases h
   ·cases h;omega
theorem J5 {b:List UInt8} {a e n:Nat} {nums:List Nat} (h:OF b a nums) (ha:a≤e) (he:e<b.length) (hj:∀ j,a≤j→j<e→128≤(b.getD j 0).toNat) (hx:(b.getD e 0).toNat<128) (hn:dC ((b.drop a).take (bn (b.drop a))) (mB a)=(n,0)):OF b (a+(e-a+1)) (nums++[n]):=by
 have hr:=(DA ha he hj hx).1
 refine ⟨by omega,by rw [List.length_append,List.length_singleton];have:=h.n0;omega,fun _ hh=>by simp at hh,fun m hm=>?_,?_⟩
 ·rcases List.mem_append.1 hm with hm|hm
  ·exact h.bd m hm
  ·rw [List.mem_singleton.1 hm]
   have hmb:mB a≤2147483727:=by unfold mB;split <;> omega
   have hle:=LC hn
   omega
 rw [h.eq,Fx (Ee jO) hn,F6,List.drop_drop,hr]
 have hm:mB (a+(e-a+1))=2147483647:=by unfold mB;rw [jK]
 rw [hm]
set_option maxHeartbeats 2000000 in
theorem EX {gs:List Nat} (b:List UInt8) (hb:b.length≤1000000):bM gs Tryz.prog 207 [bu b] (.tup 2 (fl [wl (fg b).1,.c (.int .i64 ((fg b).2:Nat))])):=by
 refine ai 93 Tryz.func207 fun al w0 F0 St0=>?_;refine jU 5231675116 ?_;refine aq (fun h88=>?_) fun h88=>?_
 ·refine jU 5116 ?_
  refine jR (ii (cX (hv:=cT (by rw [show b=[] from List.eq_nil_of_length_eq_zero jO,vw];exact ab.nilS _ _) (cI (by rw [show b=[] from List.eq_nil_of_length_eq_zero jO,vw];rfl)))))
 refine jU 6810 ?_
 refine ak (aU 0 1 nj fun p1=>?_)
 refine jU 20751651 ?_;refine aF (α:=Nat×List Nat×Option Nat) [2,3,4,5,6,7,8,15,16,17,18,19,20,21,22,23,24,25,26,27,28,29,30,31,32,33,34,35,36,37,38,39,40,41,42,43,44,45,46,47,48,49,50,51,52,53,54,55,56,57,58,59,60,61,62,63,64,65,66,67,68,69] (fun (a,nums,g)=>[(4,.os 0 g 0 (nD nums).length 1),(5,.c (.int .i64 (a:Nat)))]) (fun (a,nums,g)=>[(g,.blk (nD nums).length (kQ (nD nums)))]) (fun p=>OF b p.1 p.2.1) (fun p=>b.length-p.1) ((0,[],p1)) ?_ (fun _=>rfl) ?_ ?_ ?_
 ·exact J4 b
 ·exact .cons (cO rfl) (.cons cZ .nil)
 ·exact .blk rfl (fun j hj=>absurd hj (Nat.not_lt_zero j)) .nil
 ·rintro ⟨a,nums,g⟩ (hA:OF b a nums)
  show bj _ _ _ ⟨[(4,.os 0 g 0 (nD nums).length 1),(5,.c (.int .i64 (a:Nat)))],_,[(g,.blk (nD nums).length (kQ (nD nums)))]⟩ _
  have hle:=hA.le
  have hnl:=hA.n0
  have hol:(nD nums).length=nums.length:=by simp [nD]
  refine jU 5231167 ?_;refine aq (fun h93=>?_) fun h93=>?_
  rotate_left
  ·refine jU 84000200020006000 ?_
   have hae2:a=b.length:=by omega
   have hb0:b≠[]:=fun h=>by rw [h] at hae2;simp at hae2;omega
   have hnn:nums≠[]:=hA.ne (fun h=>hb0 (List.eq_nil_of_length_eq_zero jO))
   obtain ⟨x,xs,rfl⟩:∃ x xs,nums=x::xs:=by
     cases nums with
     | nil=>exact absurd rfl hnn
     | cons x xs=>exact ⟨x,xs,rfl⟩
   have hok:cL 2147483727 b=(x::xs,0):=by
    rw [hA.eq,hae2,List.drop_length,cL,dif_pos rfl]
    simp [oo]
   have hxl:(nD (x::xs)).length=xs.length+1:=by simp [nD]
   have hx0:(nD (x::xs)).getD 0 0=(x:Int):=rfl
   have hxb:=hA.bd x List.mem_cons_self
   have hga:=Mb hb0 hok
   refine jE (freeze 0 rfl) ?_;refine jE (mr 4 (nD (x::xs)) rfl rfl rfl (Nat.ble_eq_true_of_le (Nat.le_refl _)) (fun _ _=>cZ)) ?_;refine jU 52602000000167516 ?_;refine aq (fun h120=>?_) fun h120=>?_
   ·refine jU 7851200 ?_
    first
     |(have hF:((min (x / 40) 2:Nat):Int)=0:=by omega
       refine jE (bF 9 (.c (.int .i64 ((min (x / 40) 2:Nat):Int))) (cI jO)) ?_)
     |(have hF:((min (x / 40) 2:Nat):Int)=1:=by omega
       refine jE (bF 9 (.c (.int .i64 ((min (x / 40) 2:Nat):Int))) (cI jO)) ?_)
     |(have hF:((min (x / 40) 2:Nat):Int)=2:=by omega
       refine jE (bF 9 (.c (.int .i64 ((min (x / 40) 2:Nat):Int))) (cI jO)) ?_)
    refine py 10 (.rd 0 (.rd 1 (.rd 2 (.rd 3 (.rd 4 (.rd 5 (.rd 6 (.rd 8 (.rd 9 (.one 7 .done)))))))))) ?_;refine jU 7070 ?_;refine bV (fb (i:=0)) ?_;refine jU 7030000300007070000 ?_;refine bV (ss (hl:=(bY rfl (show (1:Int)=((1:Nat):Int) from rfl))) (hu:=(dc _ _))) ?_
    refine kO (aU 2 1 nj fun p2=>?_)
    refine BO ?_
    show cV _ _ _ _ _ _
    refine ar (av fS (l:=[((min (x / 40) 2:Nat):Int),(x:Int)-40 * ((min (x / 40) 2:Nat):Int)]) (l2:=nD xs) rfl rfl rfl rfl (by simp) (fun j hj=>by rcases j with _|_|j <;> first|exact cZ|(exfalso;simp at hj;omega)) (dj rfl) (by simp [nD]) (fun j hj=>by simp only [Nat.div_one];exact ab.of_eq y7) Tryz.underlying137 lw uq nj Eh rfl (by simp [nD];omega) (by simp [nD];omega) (fun j hj=>rfl) rfl rfl (Nat.mul_one _) (fun p3=>?_))
    refine jU 7851 ?_;refine jE (freeze 1 rfl) ?_;refine jE (mr 10 (cw (x::xs)) rfl rfl rfl (Nat.ble_eq_true_of_le (Nat.le_refl _)) (fun _ _=>cZ)) ?_;refine jU 16 ?_
    refine ak (ap (mD (cw (x::xs))) ?_)
    refine jU 530 ?_;refine aq (fun h126=>?_) fun h126=>?_
    ·refine jU 8000300070005116 ?_
     have hb:fg b=([],1):=by rw [hga,if_pos (by simpa using h126)]
     rw [hb]
     exact cT (ab.nilS _ _) cZ
    refine jU 8000700051116810 ?_
    have hb:fg b=(cw (x::xs),0):=by rw [hga,if_neg (by simpa using h126)]
    rw [hb]
    exact cT cZ cZ
   refine jU 5260200000016 ?_;refine aq (fun h122=>?_) fun h122=>?_
   rotate_left
   ·refine jU 7810 ?_
    first
     |(have hF:((min (x / 40) 2:Nat):Int)=0:=by omega
       refine jE (bF 9 (.c (.int .i64 ((min (x / 40) 2:Nat):Int))) (cI jO)) ?_)
     |(have hF:((min (x / 40) 2:Nat):Int)=1:=by omega
       refine jE (bF 9 (.c (.int .i64 ((min (x / 40) 2:Nat):Int))) (cI jO)) ?_)
     |(have hF:((min (x / 40) 2:Nat):Int)=2:=by omega
       refine jE (bF 9 (.c (.int .i64 ((min (x / 40) 2:Nat):Int))) (cI jO)) ?_)
    refine py 10 (.rd 0 (.rd 1 (.rd 2 (.rd 3 (.rd 4 (.rd 5 (.rd 6 (.rd 8 (.rd 9 (.one 7 .done)))))))))) ?_;refine jU 7070 ?_;refine bV (fb (i:=0)) ?_;refine jU 7030000300007070000 ?_;refine bV (ss (hl:=(bY rfl (show (1:Int)=((1:Nat):Int) from rfl))) (hu:=(dc _ _))) ?_
    refine kO (aU 2 1 nj fun p2=>?_)
    refine BO ?_
    show cV _ _ _ _ _ _
    refine ar (av fS (l:=[((min (x / 40) 2:Nat):Int),(x:Int)-40 * ((min (x / 40) 2:Nat):Int)]) (l2:=nD xs) rfl rfl rfl rfl (by simp) (fun j hj=>by rcases j with _|_|j <;> first|exact cZ|(exfalso;simp at hj;omega)) (dj rfl) (by simp [nD]) (fun j hj=>by simp only [Nat.div_one];exact ab.of_eq y7) Tryz.underlying137 lw uq nj Eh rfl (by simp [nD];omega) (by simp [nD];omega) (fun j hj=>rfl) rfl rfl (Nat.mul_one _) (fun p3=>?_))
    refine jU 7851 ?_;refine jE (freeze 1 rfl) ?_;refine jE (mr 10 (cw (x::xs)) rfl rfl rfl (Nat.ble_eq_true_of_le (Nat.le_refl _)) (fun _ _=>cZ)) ?_;refine jU 16 ?_
    refine ak (ap (mD (cw (x::xs))) ?_)
    refine jU 530 ?_;refine aq (fun h126=>?_) fun h126=>?_
    ·refine jU 8000300070005116 ?_
     have hb:fg b=([],1):=by rw [hga,if_pos (by simpa using h126)]
     rw [hb]
     exact cT (ab.nilS _ _) cZ
    refine jU 8000700051116810 ?_
    have hb:fg b=(cw (x::xs),0):=by rw [hga,if_neg (by simpa using h126)]
    rw [hb]
    exact cT cZ cZ
   refine jU 7851200 ?_
   first
    |(have hF:((min (x / 40) 2:Nat):Int)=0:=by omega
      refine jE (bF 9 (.c (.int .i64 ((min (x / 40) 2:Nat):Int))) (cI jO)) ?_)
    |(have hF:((min (x / 40) 2:Nat):Int)=1:=by omega
      refine jE (bF 9 (.c (.int .i64 ((min (x / 40) 2:Nat):Int))) (cI jO)) ?_)
    |(have hF:((min (x / 40) 2:Nat):Int)=2:=by omega
      refine jE (bF 9 (.c (.int .i64 ((min (x / 40) 2:Nat):Int))) (cI jO)) ?_)
   refine py 10 (.rd 0 (.rd 1 (.rd 2 (.rd 3 (.rd 4 (.rd 5 (.rd 6 (.rd 8 (.rd 9 (.one 7 .done)))))))))) ?_;refine jU 7070 ?_;refine bV (fb (i:=0)) ?_;refine jU 7030000300007070000 ?_;refine bV (ss (hl:=(bY rfl (show (1:Int)=((1:Nat):Int) from rfl))) (hu:=(dc _ _))) ?_
   refine kO (aU 2 1 nj fun p2=>?_)
   refine BO ?_
   show cV _ _ _ _ _ _
   refine ar (av fS (l:=[((min (x / 40) 2:Nat):Int),(x:Int)-40 * ((min (x / 40) 2:Nat):Int)]) (l2:=nD xs) rfl rfl rfl rfl (by simp) (fun j hj=>by rcases j with _|_|j <;> first|exact cZ|(exfalso;simp at hj;omega)) (dj rfl) (by simp [nD]) (fun j hj=>by simp only [Nat.div_one];exact ab.of_eq y7) Tryz.underlying137 lw uq nj Eh rfl (by simp [nD];omega) (by simp [nD];omega) (fun j hj=>rfl) rfl rfl (Nat.mul_one _) (fun p3=>?_))
   refine jU 7851 ?_;refine jE (freeze 1 rfl) ?_;refine jE (mr 10 (cw (x::xs)) rfl rfl rfl (Nat.ble_eq_true_of_le (Nat.le_refl _)) (fun _ _=>cZ)) ?_;refine jU 16 ?_
   refine ak (ap (mD (cw (x::xs))) ?_)
   refine jU 530 ?_;refine aq (fun h126=>?_) fun h126=>?_
   ·refine jU 8000300070005116 ?_
    have hb:fg b=([],1):=by rw [hga,if_pos (by simpa using h126)]
    rw [hb]
    exact cT (ab.nilS _ _) cZ
   refine jU 8000700051116810 ?_
   have hb:fg b=(cw (x::xs),0):=by rw [hga,if_neg (by simpa using h126)]
   rw [hb]
   exact cT cZ cZ
  refine jU 20810 ?_
  have ha:a<b.length:=by omega
  refine jU 5116 ?_;refine eW (α:=Nat) [6,20,21,22,23,24,25,26,27,28,29,30,31,32] (fun e=>[(6,.c (.int .i64 (e:Nat)))]) (fun _=>[(g,.blk (nD nums).length (kQ (nD nums)))]) (fun e=>(a≤e∧e≤b.length∧∀ j,a≤j→j<e→128≤(b.getD j 0).toNat)∧(e<b.length→(b.getD e 0).toNat<128)) (fun _=>rfl) ?_ ?_
  ·refine jU 20 ?_;refine aF (α:=Nat) [6,20,21,22,23,24,25,26,27,28,29,30,31,32] (fun e=>[(6,.c (.int .i64 (e:Nat)))]) (fun _=>[(g,.blk (nD nums).length (kQ (nD nums)))]) (fun e=>a≤e∧e≤b.length∧∀ j,a≤j→j<e→128≤(b.getD j 0).toNat) (fun e=>b.length-e) (a) ?_ (fun _=>rfl) ?_ ?_ ?_
   ·exact ⟨Nat.le_refl _,by omega,fun j h1 h2=>by omega⟩
   ·exact .cons cZ .nil
   ·exact aS.refl _
   ·rintro e ⟨(hae:a≤e),(hel:e≤b.length),(hj:∀ j,a≤j→j<e→128≤(b.getD j 0).toNat)⟩
    refine jU 1231167 ?_;refine ay 24 (fun g95=>?_) fun g95=>?_
    rotate_left
    ·refine jU 84000200020006000300550044444 ?_
     refine dh (e) ?_ (h5:=?_) (h7:=?_)
     ·exact ⟨⟨hae,hel,hj⟩,fun h=>by omega⟩
     ·exact .cons (cI jO) .nil
     ·exact aS.refl _
    refine jU 510000000026070011 ?_;refine aq (fun h95=>?_) fun h95=>?_
    rotate_left
    ·refine jU 84000200020006000 ?_
     refine dh (e) ?_ (h5:=?_) (h7:=?_)
     ·exact ⟨⟨hae,hel,hj⟩,fun h=>by omega⟩
     ·exact .cons (cI jO) .nil
     ·exact aS.refl _
    refine jU 8400519120020810 ?_
    refine aw (e+1) ?_ ?_ (h5:=?_) (h7:=?_)
    ·exact ⟨by omega,by omega,fun j h1 h2=>if h:j<e then hj j h1 h else (by obtain rfl:j=e:=jO;omega)⟩
    ·show b.length-(e+1)<b.length-e;omega
    ·exact .cons (cI jO) .nil
    ·exact aS.refl _
  ·rintro e ⟨⟨(hae:a≤e),(hel:e≤b.length),(hj:∀ j,a≤j→j<e→128≤(b.getD j 0).toNat)⟩,hst⟩
   refine jU 5231167 ?_;refine aq (fun h98=>?_) fun h98=>?_
   ·refine jU 80003000500030005000300070005116 ?_
    first
     |(exfalso;omega)
     |(have hg:=zo hA ha (Hg ha (fun j h1 h2=>hj j h1 jO) (mB a)) jD
       rw [hg]
       exact cT (ab.nilS _ _) cZ)
   refine jU 52607001167810 ?_;refine aq (fun h101=>?_) fun h101=>?_
   ·refine jU 80003000500030005000300070005116 ?_
    first
     |(exfalso;omega)
     |(have hg:=zo hA ha (e:=4) (by rw [Cx hae jO hj jO,jP]) jD
       rw [hg]
       exact cT (ab.nilS _ _) cZ)
   refine jU 516810 ?_;refine eW (α:=Unit) [7,42,43,44,45] (fun _=>[(7,.c (.int .i64 (mB a:Nat)))]) (fun _=>[(g,.blk (nD nums).length (kQ (nD nums)))]) (fun _=>True) (fun _=>rfl) ?_ ?_
   ·refine jU 5216 ?_;refine aq (fun h105=>?_) fun h105=>?_
    rotate_left
    ·refine jU 810 ?_
     refine dh (()) ?_ (h5:=?_) (h7:=?_)
     ·trivial
     ·first
      | exact .cons (cI (by unfold mB;rw [jP];rfl)) .nil
      | exact .cons (cI (by unfold mB;rw [jK];rfl)) .nil
     ·exact aS.refl _
    refine jU 85191200 ?_
    refine dh (()) ?_ (h5:=?_) (h7:=?_)
    ·trivial
    ·first
     | exact .cons (cI (by unfold mB;rw [jP];rfl)) .nil
     | exact .cons (cI (by unfold mB;rw [jK];rfl)) .nil
    ·exact aS.refl _
   ·rintro u _
    have hmb:mB a≤2147483727:=by unfold mB;split <;> omega
    refine jU 207516 ?_;refine aF (α:=Nat×Nat) [5,8,46,47,48,49,50,51,52,53,54,55,56,57,58,59,60,61,62] (fun (k,n)=>[(5,.c (.int .i64 ((a+k:Nat):Int))),(8,.c (.int .i64 (n:Nat)))]) (fun _=>[(g,.blk (nD nums).length (kQ (nD nums)))]) (fun p=>p.1≤e-a+1∧(p.2≤mB a→cA ((b.drop a).take p.1)=p.2)∧(mB a<p.2→mB a<cA ((b.drop a).take p.1))∧p.2≤mB a * 128+127) (fun p=>e-a+1-p.1) ((0,0)) ?_ (fun _=>rfl) ?_ ?_ ?_
    ·exact ⟨Nat.zero_le _,fun _=>rfl,fun h=>absurd h (Nat.not_lt_zero _),Nat.zero_le _⟩
    ·exact .cons cZ (.cons cZ .nil)
    ·exact aS.refl _
    ·rintro ⟨k,n⟩ ⟨(hk:k≤e-a+1),(hv1:n≤mB a→cA ((b.drop a).take k)=n),(hv2:mB a<n→mB a<cA ((b.drop a).take k)),(hv3:n≤mB a * 128+127)⟩
     show bj _ _ _ ⟨[(5,.c (.int .i64 ((a+k:Nat):Int))),(8,.c (.int .i64 (n:Nat)))],_,[(g,.blk (nD nums).length (kQ (nD nums)))]⟩ _
     refine jU 521167 ?_;refine aq (fun h109=>?_) fun h109=>?_
     rotate_left
     ·refine jU 784000200020006000 ?_
      have hke:k=e-a+1:=by omega
      refine jU 52116 ?_;refine aq (fun h114=>?_) fun h114=>?_
      ·refine jU 80003000500030005000300070005116 ?_
       first
        |(exfalso;omega)
        |(have hg:=zo hA ha (e:=1) (by rw [Cx hae jO hj jO,jK,if_pos (by rw [← hke];exact hv2 jO)]) jD
          rw [hg]
          exact cT (ab.nilS _ _) cZ)
      refine jU 810 ?_
      have hnum:dC ((b.drop a).take (bn (b.drop a))) (mB a)=(n,0):=by
        have hvn:=hv1 jO
        rw [Cx hae jO hj jO,jK,← hke,hvn,jK]
      refine jU 11200 ?_
      refine ak (aU 1 1 nj fun p2=>?_)
      refine ar (av fS (l2:=[(n:Int)]) rfl rfl rfl rfl (by exact Nat.le_of_eq (Nat.mul_one _)) (fun _ _=>cZ) (aY rfl (.inl rfl) jD) rfl (lz (.cons (cI (rfl)) .nil)) Tryz.underlying137 lw uq nj Eh rfl (by (simp;omega)) (by (simp;omega)) (bi rfl rfl) rfl rfl (Nat.mul_one _) (fun p3=>?_))
      refine jU 840051 ?_
      refine aw ((a+k,nums++[n],p3)) ?_ ?_ (h5:=?_) (h7:=?_)
      ·(have hke:k=e-a+1:=jO;subst hke;exact J5 hA jO jO hj jO (hnum ▸ rfl))
      ·show b.length-(a+k)<b.length-a;omega
      ·exact .cons (cO (by simp [nD])) (.cons (cI jO) .nil)
      ·exact .blk (by simp [nD]) (fun j hj=>ab.of_eq (by simp [nD])) .nil
     refine jU 52116207810 ?_;refine aq (fun h110=>?_) fun h110=>?_
     rotate_left
     ·refine jU 85191200840010 ?_
      refine aw ((k+1,if n≤mB a then n * 128+(b.getD (a+k) 0).toNat % 128 else n)) ?_ ?_ (h5:=?_) (h7:=?_)
      ·exact wQ jO jO jO hv1 hv2 hv3
      ·show e-a+1-(k+1)<e-a+1-k;omega
      ·exact .cons (cI jO) (.cons (cI (by (rw [jK]))) .nil)
      ·exact aS.refl _
     refine jU 1000000607001191200 ?_;refine jq (GA .u8 .i64) ?_;refine jU 851912008400519 ?_
     refine aw ((k+1,if n≤mB a then n * 128+(b.getD (a+k) 0).toNat % 128 else n)) ?_ ?_ (h5:=?_) (h7:=?_)
     ·exact wQ jO jO jO hv1 hv2 hv3
     ·show e-a+1-(k+1)<e-a+1-k;omega
     ·exact .cons (cI jO) (.cons (cI (by (rw [jP];omega))) .nil)
     ·exact aS.refl _
end
section
open Go.RowKit Cal
theorem yL {t:Int} {l:List (List UInt8)} {k:Nat} (h:k≤28):(ac t l k).k≤28:=by
 have hb:=ew (aD l)
 unfold ac
 repeat' split
 all_goals (dsimp only;omega)
theorem Ol (b:List UInt8):(bT b).2≤28:=by
 unfold bT
 repeat' split
 all_goals (dsimp only;omega)
theorem Lm (b:List UInt8) (x y:Int):(aI b x y).2≤28:=by
 have:=Ol b
 unfold aI
 repeat' split
 all_goals (dsimp only;omega)
theorem DV {l:List (List UInt8)} {k:Nat} (h:k≤28):bc l k≤28:=by
 unfold bc
 repeat' split
 all_goals omega
theorem N3 (r:List UInt8) (m:Nat):(dC r m).2≤4:=by
 unfold dC
 repeat' split
 all_goals (dsimp only;omega)
theorem DQ:∀ (n m:Nat) (b:List UInt8),b.length≤n→(cL m b).2≤4
 | n,m,b,h=>by
  rw [cL]
  split
  ·exact Nat.zero_le _
  ·rename_i h0
   split
   ·exact N3 _ _
   ·split
    ·cases n with
     | zero=>exact absurd (List.eq_nil_of_length_eq_zero jO) h0
     | succ n =>
      have h1:=fx h0
      have h2:=List.length_pos_iff.2 h0
      exact DQ n _ _ (by rw [List.length_drop];omega)
    ·exact Nat.zero_le _
theorem Om (b:List UInt8):(fg b).2≤28:=by
 have:=DQ _ 2147483727 b (Nat.le_refl _)
 unfold fg
 repeat' split
 all_goals (dsimp only;omega)
theorem said_e (a:AA) (b:List UInt8):(saidM a b).2≤28:=by
 have h1:=J6 b a.most
 have h2:=(Ip b).1
 have h3:=Om b
 have h4:=Lm b a.least a.most
 have h5:(tX b).2≤28:=by
  unfold tX
  repeat' split
  all_goals (dsimp only;omega)
 have h6:(jF a.least a.most b).2≤28:=by
  unfold jF
  repeat' split
  all_goals (dsimp only;omega)
 have h7:(dM b).2≤28:=by unfold dM;split <;> (dsimp only;omega)
 have h8:gV b≤28:=by
  unfold gV
  repeat' split
  all_goals omega
 unfold saidM
 repeat' split
 all_goals (dsimp only;omega)
theorem Mi {l:List (List UInt8)} {k:Nat} (h:k≤28):ke l k≤28:=by
 unfold ke
 repeat' split
 all_goals omega
theorem kp (a:AA) {l:List (List UInt8)} {k:Nat} (h:k≤28):(aa a l k).k≤28:=by
 unfold aa
 split
 ·show (ag a.tag l k).k≤28
  unfold ag
  refine yL ?_
  split <;> omega
 ·split
  ·exact DV h
  ·split
   ·exact yL h
   ·unfold eI dX
    dsimp only
    split
    ·exact said_e _ _
    ·exact yL h
theorem MN {α:Type} {sp:nA α} (h:∀ l k,k≤28→(sp l k).1.2≤28) {l0:List (List UInt8)} {k0:Nat} (h0:k0≤28):∀ j,(bw sp l0 k0 j).1.2≤28
 | 0=>h0
 | j+1=>h _ _ (MN h h0 j)
theorem Oq {α:Type} {sp:nA α} (h:∀ l k,k≤28→(sp l k).1.2≤28) {l0:List (List UInt8)} {k0:Nat} {most:Int} (h0:k0≤28):(fh sp l0 k0 most).2≤28:=by
 have hj:(bw sp l0 k0 (jG sp l0 k0 most)).1.2≤28:=MN h h0 _
 unfold fh
 dsimp only
 split
 ·unfold bc;rw [if_pos jD];exact Nat.le_of_ble_eq_true rfl
 ·exact DV hj
end
section
open Go.RowKit Cal
def eE (f:Fd) (v:V4):Bool :=
 if f.call=0 then bx v.who else if f.call=3∨f.call=4 then decide (f.least≤v.n) && decide (v.n≤f.most) else
 if f.call=6 then decide (f.least≤(v.b.length:Nat)) && decide ((v.b.length:Nat)≤f.most) else if f.call=7 then lc v.t else
 if f.call=9 then decide (0≤v.n) && decide (v.n≤253402300799) else true
def fT:List Fd→List V4→Bool
 | f::fs,v::vs=>eE f v && fT fs vs
 | _,_=>true
def qv (kind:Int) (vs:List V4):Bool :=
 if kind=2 then (decide ((vs.getD 5 V4.z).b.length=0) || decide (0<(vs.getD 4 V4.z).b.length)) && (decide ((vs.getD 4 V4.z).b.length=0) || decide ((vs.getD 3 V4.z).n=1))
 else if kind=3 then decide ((vs.getD 3 V4.z).n≤(vs.getD 4 V4.z).n) else true
def aQ (kind:Int) (fs:List Fd) (vs:List V4):Bool:=fT fs vs && qv kind vs
def lG (f:Fd) (v:V4):Prop:=(f.call=0∧v=⟨0,[],[],v.who⟩)∨((f.call=3∨f.call=4)∧v=⟨v.n,[],[],bA⟩)∨(f.call=6∧v=⟨0,[],v.b,bA⟩)∨(f.call=7∧v=⟨0,v.t,[],bA⟩)∨(f.call=9∧v=⟨v.n,[],[],bA⟩)
def fE:List Fd→List V4→Prop
 | [],[]=>True
 | f::fs,v::vs=>lG f v∧fE fs vs
 | _,_=>False
theorem CU {f:Fd} {v:V4} (hn:lG f v) (h:eE f v=true):iS f v:=by
 unfold lG at hn
 unfold eE at h
 rcases hn with ⟨hc,hv⟩|⟨hc,hv⟩|⟨hc,hv⟩|⟨hc,hv⟩|⟨hc,hv⟩
 ·rw [if_pos hc] at h
  exact .inl ⟨hc,hv,h⟩
 ·rw [jK,if_pos hc,Bool.and_eq_true,decide_eq_true_eq,decide_eq_true_eq] at h
  exact .inr (.inl ⟨hc,hv,h.1,h.2⟩)
 ·rw [jK,jK,if_pos hc,Bool.and_eq_true,decide_eq_true_eq,decide_eq_true_eq] at h
  exact .inr (.inr (.inl ⟨hc,hv,h.1,h.2⟩))
 ·rw [jK,jK,jK,if_pos hc] at h
  have hl:=so h
  exact .inr (.inr (.inr (.inl ⟨hc,hv,lE hl.1 hl.2.1 (by have:=hl.2.2;omega)⟩)))
 ·rw [jK,jK,jK,jK,if_pos hc,Bool.and_eq_true,decide_eq_true_eq,decide_eq_true_eq] at h
  exact .inr (.inr (.inr (.inr ⟨hc,hv,h⟩)))
theorem om:∀ {fs:List Fd} {vs:List V4},fE fs vs→fT fs vs=true→eY fs vs
 | [],[],_,_=>trivial
 | f::fs,v::vs,hn,h=>by
  have h':(eE f v && fT fs vs)=true:=h
  rw [Bool.and_eq_true] at h'
  exact ⟨CU hn.1 h'.1,om hn.2 h'.2⟩
 | [],v::vs,hn,_=>hn.elim
 | f::fs,[],hn,_=>hn.elim
def vE (kind:Int):VV:=⟨4,kind,false,[],[]⟩
def aK (kind:Int):AA:=⟨4,0,kind,kind⟩
def tF (kind:Int) (fs:List Fd) (vs:List V4):List UInt8:=dl 48 (dl 10 (fa kind)++nv fs vs)
def uY (kind:Int) (fs:List Fd) (vs:List V4):W8:=db (mI fs vs (jj (vE kind) (jj (w1 48) GJ)))
def DC (kind:Int) (fs:List Fd) (vs:List V4):R8:=cD w2 (ko fs vs (cD (vE kind) (cD (w1 48) Ln)))
def bL (kind:Int):Prop:=0≤kind∧kind≤100
theorem AV {kind:Int} (h:bL kind):bT (fa kind)=(kind,0)∧(fa kind).length≤8:=by
 unfold bL at h
 exact ⟨At jO jO,(n8 kind jO jO).2⟩
theorem M4 (kind:Int) (s:W8):jj (vE kind) s=eZ 10 (fa kind) 0 s:=by
 unfold jj
 rw [if_neg (show ¬ (vE kind).kind=1 by show ¬ (4:Int)=1;decide),if_neg (show ¬ (vE kind).kind=2 by show ¬ (4:Int)=2;decide),if_neg (show ¬ (vE kind).kind=11 by show ¬ (4:Int)=11;decide)]
 rfl
section
variable {kind:Int} {fs:List Fd} {vs:List V4}
theorem K3 (hk:bL kind) (ho:∀ f ∈ fs,fD f) (hl:fs.length≤8) (h:eY fs vs):(dl 10 (fa kind)++nv fs vs).length≤33000∧(tF kind fs vs).length≤33100:=by
 have h1:=xS ho h
 have h2:=(AV hk).2
 have h3:=jC 10 (fa kind)
 have h4:=jC 48 (dl 10 (fa kind)++nv fs vs)
 unfold tF
 rw [List.length_append] at h4 ⊢
 omega
theorem rZ (hk:bL kind) (ho:∀ f ∈ fs,fD f) (hl:fs.length≤8) (h:eY fs vs):iF (uY kind fs vs)=0∧pH (uY kind fs vs)=tF kind fs vs:=by
 obtain ⟨l1,l2⟩:=K3 hk ho hl h
 have h2:=(AV hk).2
 have e1:jj (vE kind) (jj (w1 48) GJ)=⟨[(48,[dl 10 (fa kind)])],[],0⟩:=by
  rw [rr,show dw 48 GJ=⟨[(48,[])],[],0⟩ from rfl,M4,uX rfl jD jO]
  rfl
 obtain ⟨ls',g1,g2⟩:=xd ho h (ls:=[dl 10 (fa kind)]) (d:=[])
 have g3:ls'.flatten=dl 10 (fa kind)++nv fs vs:=by rw [g2];simp
 have e2:uY kind fs vs=⟨[],tF kind fs vs,0⟩:=by
  unfold uY
  rw [e1,g1,vW jD jD (by rw [g3];omega),g3]
  rfl
 have hkz:iF (⟨[],tF kind fs vs,0⟩:W8)=0:=by
  unfold iF
  rw [if_neg (by simp),if_neg (by simp),if_neg (by dsimp only;omega)]
 rw [e2]
 refine ⟨hkz,?_⟩
 unfold pH
 rw [if_pos hkz]
end
theorem Gg {l:List (List UInt8)} {k:Nat} (h:ke l k=0):k=0:=by
 unfold ke at h
 split at h
 ·rename_i h0;exact absurd h h0
 ·omega
def aW (kind:Int) (fs:List Fd) (b:List UInt8):List V4×Nat :=
 let r1:=aa aL [b] (af b).2
 let r2:=aa (aK kind) r1.l r1.k
 let x:=am fs r2.l r2.k
 let r4:=aa aE x.1.1 x.1.2
 (x.2,ke r4.l r4.k)
def aR (kind:Int) (fs:List Fd) (b:List UInt8):List V4×Nat :=
 if (aW kind fs b).2≠0 then (List.replicate fs.length V4.z,(aW kind fs b).2) else if aQ kind fs (aW kind fs b).1=false then (List.replicate fs.length V4.z,4) else ((aW kind fs b).1,0)
section
variable {kind:Int} {fs:List Fd} {vs:List V4}
theorem qG {b:List UInt8} (ho:∀ f ∈ fs,fD f) (h:(aW kind fs b).2=0):eY fs (aW kind fs b).1∧tF kind fs (aW kind fs b).1=b∧(bT (fa kind)).2=0:=by
 have h':ke (aa aE (am fs (aa (aK kind) (aa aL [b] (af b).2).l (aa aL [b] (af b).2).k).l (aa (aK kind) (aa aL [b] (af b).2).l (aa aL [b] (af b).2).k).k).1.1 (am fs (aa (aK kind) (aa aL [b] (af b).2).l (aa aL [b] (af b).2).k).l (aa (aK kind) (aa aL [b] (af b).2).l (aa aL [b] (af b).2).k).k).1.2).l (aa aE (am fs (aa (aK kind) (aa aL [b] (af b).2).l (aa aL [b] (af b).2).k).l (aa (aK kind) (aa aL [b] (af b).2).l (aa aL [b] (af b).2).k).k).1.1 (am fs (aa (aK kind) (aa aL [b] (af b).2).l (aa aL [b] (af b).2).k).l (aa (aK kind) (aa aL [b] (af b).2).l (aa aL [b] (af b).2).k).k).1.2).k=0:=h
 have p1:0<(aa aL [b] (af b).2).l.length:=by
  obtain ⟨_,_,_,a4,_⟩:=fU aL (l:=[b]) (k:=(af b).2) (by simp)
  obtain ⟨a41,a42⟩:=a4 rfl
  by_cases h0:(aa aL [b] (af b).2).k=0
  ·rw [a41 h0];omega
  ·rw [a42 h0];simp
 obtain ⟨_,_,_,_,_,q6,q7⟩:=fU (aK kind) (l:=(aa aL [b] (af b).2).l) (k:=(aa aL [b] (af b).2).k) p1
 have p2:=q6 (by show ¬ (4:Int)=1;decide) (by show ¬ (4:Int)=2;decide)
 obtain ⟨r1,r2,r3⟩:=jL fs (l:=(aa (aK kind) (aa aL [b] (af b).2).l (aa aL [b] (af b).2).k).l) (k:=(aa (aK kind) (aa aL [b] (af b).2).l (aa aL [b] (af b).2).k).k) ho jO
 obtain ⟨_,_,_,_,s5,_,s7⟩:=fU aE (l:=(am fs (aa (aK kind) (aa aL [b] (af b).2).l (aa aL [b] (af b).2).k).l (aa (aK kind) (aa aL [b] (af b).2).l (aa aL [b] (af b).2).k).k).1.1) (k:=(am fs (aa (aK kind) (aa aL [b] (af b).2).l (aa aL [b] (af b).2).k).l (aa (aK kind) (aa aL [b] (af b).2).l (aa aL [b] (af b).2).k).k).1.2) r2
 have k4:=Gg h'
 have k3:=s7 k4
 have k2:=r1 k3
 have k1:=q7 k2
 obtain ⟨f1,f2⟩:=eF aL rfl [b] (af b).2
 obtain ⟨hk0,body,r,e1,e2,e3,_⟩:=qg (ls:=[]) (x:=b) (t:=48) jD (show (ag 48 [b] (af b).2).k=0 from f2.symm.trans k1)
 have g1:(aa aL [b] (af b).2).l=[r]++[body]:=f1.trans e3
 have e1':b=dl 48 body++r:=e1
 rw [g1,k1] at k2 k3 k4 h'
 obtain ⟨_,kb,r',t1,t2,t3,t4⟩:=oX (a:=aK kind) (ls:=[r]) (x:=body) ⟨by show (3:Int)≤4;decide,by show (4:Int)≤10;decide⟩ k2
 rw [t4] at k3 k4 h'
 dsimp only at k3 k4 h'
 obtain ⟨_,ws,r'',u1,u2,u3⟩:=tq ho k3
 rw [u3] at k4 h'
 dsimp only at k4 h'
 obtain ⟨f3,f4⟩:=dK aE rfl ([r]++[r'']) 0
 rw [f4] at k4
 obtain ⟨_,v1,_,v3⟩:=pX k4
 subst v1
 rw [f3,f4,v3,k4] at h'
 have h5:=(Js (l:=[r]) (k:=0) (by simp) h').2
 have hr:r=[]:=by simpa using h5
 subst hr
 have hws:(aW kind fs b).1=ws:=by
  unfold aW
  dsimp only
  rw [g1,k1,t4]
  dsimp only
  rw [u3]
 have hkk:fa kind=kb:=by
  have t3':(aI kb kind kind).2=0:=t3
  obtain ⟨c1,c2,c3,c4,c5⟩:=lp t3'
  have e:(aI kb kind kind).1=kind:=by omega
  rw [e] at c1
  exact c1
 rw [hws]
 have t1':body=dl 10 kb++r':=t1
 refine ⟨u1,?_,?_⟩
 ·rw [e1',t1',u2,← hkk,List.append_nil,List.append_nil]
  rfl
 ·have t3':(aI kb kind kind).2=0:=t3
  rw [hkk]
  exact (lp t3').2.1
end
def aM:List Fd:=[⟨0,0,0⟩,⟨6,1,4096⟩,⟨9,0,0⟩,⟨4,0,2⟩,⟨6,0,4096⟩,⟨6,0,4096⟩]
def bU:List Fd:=[⟨3,1,1048576⟩,⟨6,16,64⟩,⟨4,1,4⟩,⟨9,0,0⟩,⟨9,0,0⟩,⟨9,0,0⟩,⟨3,0,1099511627776⟩]
def cg:List Fd:=[⟨3,1,1048576⟩,⟨3,1,1099511627776⟩,⟨9,0,0⟩,⟨9,0,0⟩]
def co:List Fd:=[⟨7,1,24⟩,⟨6,32,32⟩,⟨9,0,0⟩]
def dN:List Fd:=[⟨6,1,4096⟩,⟨6,0,4096⟩]
instance (f:Fd):Decidable (fD f):=by unfold fD;infer_instance
theorem dJ:∀ f ∈ aM,fD f:=by decide
theorem ix:∀ f ∈ bU,fD f:=by decide
theorem lu:∀ f ∈ cg,fD f:=by decide
theorem mK:∀ f ∈ co,fD f:=by decide
theorem r9:∀ f ∈ dN,fD f:=by decide
theorem w6 {kind:Int} {fs:List Fd} {b:List UInt8} (ho:∀ f ∈ fs,fD f) (h:(aR kind fs b).2=0):tF kind fs (aR kind fs b).1=b∧aQ kind fs (aR kind fs b).1=true:=by
 unfold aR at h ⊢
 by_cases h0:(aW kind fs b).2≠0
 ·rw [if_pos h0] at h;exact absurd h h0
 ·rw [if_neg h0] at h ⊢
  by_cases h1:aQ kind fs (aW kind fs b).1=false
  ·rw [if_pos h1] at h;cases h
  ·rw [if_neg h1]
   exact ⟨(qG ho (Classical.not_not.1 h0)).2.1,by simpa using h1⟩
def nr (b:List UInt8):Int :=
 if (aR 2 aM b).2=0 then 2 else if (aR 3 bU b).2=0 then 3 else if (aR 4 cg b).2=0 then 4 else if (aR 7 co b).2=0 then 7 else if (aR 6 dN b).2=0 then 6 else 0
end
section
open Go.RowKit Cal
theorem tY:∀ {fs:List Fd} {vs:List V4},(∀ f ∈ fs,fD f)→eY fs vs→∀ {i:Nat} {r:R8} {w:W8},ie i r w→ie (i+14 * fs.length) (ko fs vs r) (mI fs vs w)
 | [],[],_,_,i,r,w,h=>h
 | f::fs,v::vs,ho,h,i,r,w,hI=>by
  have h1:=tY (fun g hg=>ho g (List.mem_cons_of_mem _ hg)) h.2 (i6 (ho f List.mem_cons_self) h.1 hI)
  rw [List.length_cons,show i+14 * (fs.length+1)=i+14+14 * fs.length by omega]
  exact h1
 | [],v::vs,_,h,_,_,_,_=>h.elim
 | f::fs,[],_,h,_,_,_,_=>h.elim
theorem ut {kind:Int} (h:bL kind):jh (vE kind):=⟨by unfold bL at h;show _≤kind∧kind≤_;omega,by simp [vE],by simp [vE]⟩
theorem oh {kind:Int} (h:bL kind):ie 2 (cD (vE kind) (cD (w1 48) Ln)) (jj (vE kind) (jj (w1 48) GJ)):=iz (iz y6 (fF (t:=48) jD)) (ut h)
theorem D3 {kind:Int} {fs:List Fd} {vs:List V4} (h:bL kind) (ho:∀ f ∈ fs,fD f) (hg:eY fs vs):ie (3+14 * fs.length) (DC kind fs vs) (uY kind fs vs):=by
 have h1:=iz (tY ho hg (oh h)) lS
 rw [xU,show 2+14 * fs.length+1=3+14 * fs.length by omega] at h1
 exact h1
end
end Am
end Go.Proofs.YthlpfjnkieaeeaaGreatDoor
