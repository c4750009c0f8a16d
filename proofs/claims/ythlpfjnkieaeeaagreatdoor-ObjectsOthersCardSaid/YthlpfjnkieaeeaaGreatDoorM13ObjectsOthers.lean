/- What the law leans on, part 13: W19f, W19g, W19h, W19i, AmO, L19a, L19b, L19e, Open, Open2 -/
import Derived.Test.YthlpfjnkieaeeaaGreatDoorM12ObjectsOthers
import Derived.ChangeArms
import Derived.ChangeOld
import Derived.OpenShut

set_option maxRecDepth 100000
namespace Go.Proofs.YthlpfjnkieaeeaaGreatDoor
set_option linter.unusedVariables false
namespace Am
open Go.RowKit
section
open Go.RowKit Cal
def Fd.z:Fd:=⟨0,0,0⟩
def fdE (f:Fd):Nat→CV:=fl [.c (.int .i64 f.call),.c (.int .i64 f.least),.c (.int .i64 f.most)]
def fdsC (fs:List Fd):CV:=.rs 3 fs.length fun i j=>fdE (fs.getD i Fd.z) j
def v4E (v:V4):Nat→CV:=fl [.c (.int .i64 v.n),strC v.t,bsC v.b,.c (.int .i64 v.who.1),strC v.who.2.1,strC v.who.2.2]
def v4sC (vs:List V4):CV:=.rs 6 vs.length fun i j=>v4E (vs.getD i V4.z) j
def rrE (kind:Int) (fs:List Fd):Nat→CV:=fl [.c (.int .i64 kind),fdsC fs]
def rrC (kind:Int) (fs:List Fd):CV:=.agg 2 (rrE kind fs)
theorem rightFs_take:∀ (fs:List Fd) (vs:List V4) (i:Nat),i<fs.length→i<vs.length→rightFs (fs.take (i+1)) (vs.take (i+1))=(rightFs (fs.take i) (vs.take i) && rightF (fs.getD i Fd.z) (vs.getD i V4.z))
 | f::fs,v::vs,0,_,_=>by simp [rightFs]
 | f::fs,v::vs,i+1,h1,h2=>by
  have:=rightFs_take fs vs i (by simpa using h1) (by simpa using h2)
  simp only [List.take_succ_cons,rightFs,this,Bool.and_assoc]
  simp
 | [],_,_,h,_=>absurd h (Nat.not_lt_zero _)
 | _::_,[],_,_,h=>absurd h (Nat.not_lt_zero _)
theorem rightFs_bad:∀ (fs:List Fd) (vs:List V4) (i:Nat),i<fs.length→i<vs.length→rightF (fs.getD i Fd.z) (vs.getD i V4.z)=false→rightFs fs vs=false
 | f::fs,v::vs,0,_,_,h=>by
  have h':rightF f v=false:=h
  show (rightF f v && rightFs fs vs)=false
  rw [h'];rfl
 | f::fs,v::vs,i+1,h1,h2,h=>by
  have:=rightFs_bad fs vs i (by simpa using h1) (by simpa using h2) h
  show (rightF f v && rightFs fs vs)=false
  rw [this,Bool.and_false]
 | [],_,_,h,_,_=>absurd h (Nat.not_lt_zero _)
 | _::_,[],_,_,h,_=>absurd h (Nat.not_lt_zero _)
theorem rightF_0 {f:Fd} {v:V4} (h:f.call=0):rightF f v=rightS v.who:=by unfold rightF;rw [if_pos h]
theorem rightF_3 {f:Fd} {v:V4} (h:f.call=3∨f.call=4):rightF f v=(decide (f.least≤v.n) && decide (v.n≤f.most)):=by unfold rightF;rw [if_neg (by omega),if_pos h]
theorem rightF_6 {f:Fd} {v:V4} (h:f.call=6):rightF f v=(decide (f.least≤(v.b.length:Nat)) && decide ((v.b.length:Nat)≤f.most)):=by unfold rightF;rw [if_neg (by omega),if_neg (by omega),if_pos h]
theorem rightF_7 {f:Fd} {v:V4} (h:f.call=7):rightF f v=labM v.t:=by unfold rightF;rw [if_neg (by omega),if_neg (by omega),if_neg (by omega),if_pos h]
theorem rightF_9 {f:Fd} {v:V4} (h:f.call=9):rightF f v=(decide (0≤v.n) && decide (v.n≤253402300799)):=by unfold rightF;rw [if_neg (by omega),if_neg (by omega),if_neg (by omega),if_neg (by omega),if_pos h]
theorem rightF_x {f:Fd} {v:V4} (h0:f.call≠0) (h3:f.call≠3) (h4:f.call≠4) (h6:f.call≠6) (h7:f.call≠7) (h9:f.call≠9):rightF f v=true:=by unfold rightF;rw [if_neg (by omega),if_neg (by omega),if_neg (by omega),if_neg (by omega),if_neg (by omega)]
set_option maxHeartbeats 4000000 in
theorem rright19_ac {gs:List Nat} (kind:Int) (fs:List Fd) (vs:List V4) (h8:fs.length≤8) (hl:vs.length=fs.length) (hs:(kind=2→6≤fs.length)∧(kind=3→5≤fs.length)):ACp gs Tryz.prog 71 [rrC kind fs,v4sC vs] (.c (.bool (rightRec kind fs vs))):=by
 refine ac_of 122 Tryz.func71 rfl rfl rfl (fun al w0 F0 St0=>?_)
 refine jcr ?_
 refine jqe (jebx 2 fun p1=>?_)
 refine jU 20513501006751 ?_;refine l_loop (α:=Nat) [4,5,6,7,11,12,13,14,15,16,17,18,19,20,21,22,23,24,25,26,27,28,29,30,31,32,33,34,35,36,37,38,39,40,41,42,43,44,45,46,47,48,49,50,51,52,53,54,55,56,57,58,59,60,61,62,63,64,65,66,67,68,69,70,71,72,73,74,75] (fun i=>[(11,.c (.int .i64 (i:Nat)))]) (fun i=>[(p1,.blk 2 (rrE kind fs))]) (fun i=>i≤fs.length∧rightFs (fs.take i) (vs.take i)=true) (fun i=>fs.length-i) (0) ?_ (fun _=>rfl) ?_ ?_ ?_
 ·exact ⟨Nat.zero_le _,rfl⟩
 ·exact .cons cZ .nil
 ·exact .blk rfl (fun j hj=>by rcases j with _|_|j <;> exact cZ) .nil
 ·rintro i ⟨(hi:i≤fs.length),(ha:rightFs (fs.take i) (vs.take i)=true)⟩
  refine jU 7526 ?_;refine jcc (fun h50=>?_) fun h50=>?_
  rotate_left
  ·refine jU 784000200020006000 ?_
   have hie:i=fs.length:=by omega
   have haa:rightFs fs vs=true:=by rw [← ha,hie,List.take_length,← hl,List.take_length]
   have hR:rightRec kind fs vs=specR kind vs:=by unfold rightRec;rw [haa];rfl
   refine jU 5250906 ?_;refine jcc (fun h75=>?_) fun h75=>?_
   rotate_left
   ·refine jU 7810 ?_;refine jcd (.rd 0 (.rd 1 (.rd 2 (.rd 3 (.rd 4 (.rd 5 (.rd 6 (.rd 7 (.rd 8 (.rd 9 (.rd 10 (.rd 11 (.rd 12 (.rd 13 (.rd 14 .done))))))))))))))) ?_;refine jU 7080010000900000 ?_;refine jysp 111 (fun g78=>?_) fun g78=>?_
    ·refine jU 880703000000600600600600600600600600600 ?_
     refine jR (jrt (hv:=?_))
     rw [hR]
     unfold specR
     rw [if_neg (by omega)]
     refine cB ?_
     first
     |(rw [if_pos (by omega)];done)
     |(rw [if_neg (by omega)];simp_all;done)
     |(rw [if_neg (by omega)];done)
     |(rw [if_pos (by omega)];simp_all;done)
    refine jU 70 ?_;refine jyq (jri (i:=3)) ?_;refine jU 7070000900000 ?_;refine jyq (jri (i:=4)) ?_;refine jU 8807030000080070000900000 ?_
    refine jR (jrt (hv:=?_))
    rw [hR]
    unfold specR
    rw [if_neg (by omega)]
    refine cB ?_
    first
    |(rw [if_pos (by omega)];done)
    |(rw [if_neg (by omega)];simp_all;done)
    |(rw [if_neg (by omega)];done)
    |(rw [if_pos (by omega)];simp_all;done)
   refine jU 16 ?_;refine jq (jri (i:=5)) ?_;refine jU 123601000 ?_;refine jqsp 85 (fun g76=>?_) fun g76=>?_
   ·refine jU 118000444444 ?_;refine jq (jri (i:=4)) ?_;refine jU 123601000 ?_;refine jqsp 100 (fun g76_2=>?_) fun g76_2=>?_
    ·refine jU 518000800044444 ?_
     refine jR (jtr (jrt (hv:=?_)))
     rw [hR]
     unfold specR
     rw [if_pos (by omega)]
     refine cB ?_
     (simp_all;done)
    refine jU 1 ?_;refine jq (jri (i:=3)) ?_;refine jU 51800050026090 ?_
    refine jR (jtr (jrt (hv:=?_)))
    rw [hR]
    unfold specR
    rw [if_pos (by omega)]
    refine cB ?_
    (simp_all;done)
   refine jU 1 ?_;refine jq (jri (i:=4)) ?_;refine jU 150023601000 ?_;refine jqsp 93 (fun g76_2=>?_) fun g76_2=>?_
   rotate_left
   ·refine jU 515004444444444444 ?_
    refine jR (jtr (jrt (hv:=?_)))
    rw [hR]
    unfold specR
    rw [if_pos (by omega)]
    refine cB ?_
    (simp_all;done)
   refine jU 1 ?_;refine jq (jri (i:=4)) ?_;refine jU 123601000 ?_;refine jqsp 100 (fun g76_3=>?_) fun g76_3=>?_
   ·refine jU 518000800044444 ?_
    refine jR (jtr (jrt (hv:=?_)))
    rw [hR]
    unfold specR
    rw [if_pos (by omega)]
    refine cB ?_
    (rw [Bool.eq_iff_iff];simp;omega)
   refine jU 1 ?_;refine jq (jri (i:=3)) ?_;refine jU 51800050026090 ?_
   refine jR (jtr (jrt (hv:=?_)))
   rw [hR]
   unfold specR
   rw [if_pos (by omega)]
   refine cB ?_
   (simp_all;done)
  refine jU 70016207810 ?_;refine jq (jrdrA 3) ?_
  refine jqe (jeal (n:=3) zr118 rfl fun p2=>?_)
  refine jU 1 ?_
  refine jqm (jmstF 3 (fdE (fs.getD i Fd.z)) ?_ ?_)
  ·exact (fun j hj=>by rcases j with _|_|_|j <;> first|exact cZ|omega)
  refine jU 7001165 ?_;refine jq (jrdrA 6) ?_
  refine jqe (jeal (n:=6) zr120 rfl fun p3=>?_)
  refine jqm (jmstF 6 (v4E (vs.getD i V4.z)) ?_ ?_)
  ·exact (fun j hj=>by rcases j with _|_|_|_|_|_|j <;> first|exact cZ|omega)
  refine jU 5126205509065 ?_;refine jcc (fun h53=>?_) fun h53=>?_
  ·refine jcr ?_;refine jq (jrfa 3 3 true) ?_;refine jqo (jrdoA 3) ?_
   refine jqe (jecP (rright_ac (vs.getD i V4.z).who) ?_)
   refine jU 530 ?_;refine jcc (fun h54=>?_) fun h54=>?_
   ·refine jU 516 ?_
    refine jR (jbr (jbr (jtr (jtr (jbr (jtr (jrt (hv:=?_))))))))
    refine cB (Eq.symm ?_)
    unfold rightRec
    rw [rightFs_bad fs vs i (by omega) (by omega) (by rw [rightF_0 (by omega)];simpa using h54)];rfl
   refine jU 8519200840040010 ?_
   refine jlend (i+1) ?_ ?_ (h5:=?_) (h7:=?_)
   ·refine ⟨by omega,?_⟩
    rw [rightFs_take fs vs i (by omega) (by omega),ha,Bool.true_and]
    first
    |(rw [rightF_0 (by omega)];simpa using h54)
    |(rw [rightF_3 (by omega),Bool.and_eq_true,decide_eq_true_eq,decide_eq_true_eq];omega)
    |(rw [rightF_6 (by omega),Bool.and_eq_true,decide_eq_true_eq,decide_eq_true_eq];omega)
    |(rw [rightF_7 (by omega)];simpa using h66)
    |(rw [rightF_9 (by omega),Bool.and_eq_true,decide_eq_true_eq,decide_eq_true_eq];omega)
    | exact rightF_x (by omega) (by omega) (by omega) (by omega) (by omega) (by omega)
   ·show fs.length-(i+1)<fs.length-i;omega
   ·exact .cons (cI (by omega)) .nil
   ·exact HEnt.refl _
  refine jU 51267 ?_;refine jcc (fun h57=>?_) fun h57=>?_
  ·refine jU 1250100509069000810 ?_;refine jqsp 36 (fun g58=>?_) fun g58=>?_
   ·refine jU 51690005800044444 ?_
    refine jR (jbr (jbr (jtr (jtr (jbr (jtr (jrt (hv:=?_))))))))
    refine cB (Eq.symm ?_)
    unfold rightRec
    rw [rightFs_bad fs vs i (by omega) (by omega) (by rw [rightF_3 (by omega),Bool.and_eq_false_iff,decide_eq_false_iff_not,decide_eq_false_iff_not];omega)];rfl
   refine jU 550025010005090 ?_;refine jcc (fun h58=>?_) fun h58=>?_
   ·refine jU 516 ?_
    refine jR (jbr (jbr (jtr (jtr (jbr (jtr (jrt (hv:=?_))))))))
    refine cB (Eq.symm ?_)
    unfold rightRec
    rw [rightFs_bad fs vs i (by omega) (by omega) (by rw [rightF_3 (by omega),Bool.and_eq_false_iff,decide_eq_false_iff_not,decide_eq_false_iff_not];omega)];rfl
   refine jU 8519200840040010 ?_
   refine jlend (i+1) ?_ ?_ (h5:=?_) (h7:=?_)
   ·refine ⟨by omega,?_⟩
    rw [rightFs_take fs vs i (by omega) (by omega),ha,Bool.true_and]
    first
    |(rw [rightF_0 (by omega)];simpa using h54)
    |(rw [rightF_3 (by omega),Bool.and_eq_true,decide_eq_true_eq,decide_eq_true_eq];omega)
    |(rw [rightF_6 (by omega),Bool.and_eq_true,decide_eq_true_eq,decide_eq_true_eq];omega)
    |(rw [rightF_7 (by omega)];simpa using h66)
    |(rw [rightF_9 (by omega),Bool.and_eq_true,decide_eq_true_eq,decide_eq_true_eq];omega)
    | exact rightF_x (by omega) (by omega) (by omega) (by omega) (by omega) (by omega)
   ·show fs.length-(i+1)<fs.length-i;omega
   ·exact .cons (cI (by omega)) .nil
   ·exact HEnt.refl _
  refine jU 8512200 ?_;refine jcc (fun h57_2=>?_) fun h57_2=>?_
  ·refine jU 125010050906 ?_;refine jqsp 36 (fun g58=>?_) fun g58=>?_
   ·refine jU 51690005800044444 ?_
    refine jR (jbr (jbr (jtr (jtr (jbr (jtr (jrt (hv:=?_))))))))
    refine cB (Eq.symm ?_)
    unfold rightRec
    rw [rightFs_bad fs vs i (by omega) (by omega) (by rw [rightF_3 (by omega),Bool.and_eq_false_iff,decide_eq_false_iff_not,decide_eq_false_iff_not];omega)];rfl
   refine jU 550025010005090 ?_;refine jcc (fun h58=>?_) fun h58=>?_
   ·refine jU 516 ?_
    refine jR (jbr (jbr (jtr (jtr (jbr (jtr (jrt (hv:=?_))))))))
    refine cB (Eq.symm ?_)
    unfold rightRec
    rw [rightFs_bad fs vs i (by omega) (by omega) (by rw [rightF_3 (by omega),Bool.and_eq_false_iff,decide_eq_false_iff_not,decide_eq_false_iff_not];omega)];rfl
   refine jU 8519200840040010 ?_
   refine jlend (i+1) ?_ ?_ (h5:=?_) (h7:=?_)
   ·refine ⟨by omega,?_⟩
    rw [rightFs_take fs vs i (by omega) (by omega),ha,Bool.true_and]
    first
    |(rw [rightF_0 (by omega)];simpa using h54)
    |(rw [rightF_3 (by omega),Bool.and_eq_true,decide_eq_true_eq,decide_eq_true_eq];omega)
    |(rw [rightF_6 (by omega),Bool.and_eq_true,decide_eq_true_eq,decide_eq_true_eq];omega)
    |(rw [rightF_7 (by omega)];simpa using h66)
    |(rw [rightF_9 (by omega),Bool.and_eq_true,decide_eq_true_eq,decide_eq_true_eq];omega)
    | exact rightF_x (by omega) (by omega) (by omega) (by omega) (by omega) (by omega)
   ·show fs.length-(i+1)<fs.length-i;omega
   ·exact .cons (cI (by omega)) .nil
   ·exact HEnt.refl _
  refine jU 5126 ?_;refine jcc (fun h61=>?_) fun h61=>?_
  ·refine jU 125010035010006 ?_;refine jqsp 51 (fun g62=>?_) fun g62=>?_
   ·refine jU 516900058000444444 ?_
    refine jR (jbr (jbr (jtr (jtr (jbr (jtr (jrt (hv:=?_))))))))
    refine cB (Eq.symm ?_)
    unfold rightRec
    rw [rightFs_bad fs vs i (by omega) (by omega) (by rw [rightF_6 (by omega),Bool.and_eq_false_iff,decide_eq_false_iff_not,decide_eq_false_iff_not];omega)];rfl
   refine jU 550025010003501000 ?_;refine jcc (fun h62=>?_) fun h62=>?_
   ·refine jU 516 ?_
    refine jR (jbr (jbr (jtr (jtr (jbr (jtr (jrt (hv:=?_))))))))
    refine cB (Eq.symm ?_)
    unfold rightRec
    rw [rightFs_bad fs vs i (by omega) (by omega) (by rw [rightF_6 (by omega),Bool.and_eq_false_iff,decide_eq_false_iff_not,decide_eq_false_iff_not];omega)];rfl
   refine jU 8519200840040010 ?_
   refine jlend (i+1) ?_ ?_ (h5:=?_) (h7:=?_)
   ·refine ⟨by omega,?_⟩
    rw [rightFs_take fs vs i (by omega) (by omega),ha,Bool.true_and]
    first
    |(rw [rightF_0 (by omega)];simpa using h54)
    |(rw [rightF_3 (by omega),Bool.and_eq_true,decide_eq_true_eq,decide_eq_true_eq];omega)
    |(rw [rightF_6 (by omega),Bool.and_eq_true,decide_eq_true_eq,decide_eq_true_eq];omega)
    |(rw [rightF_7 (by omega)];simpa using h66)
    |(rw [rightF_9 (by omega),Bool.and_eq_true,decide_eq_true_eq,decide_eq_true_eq];omega)
    | exact rightF_x (by omega) (by omega) (by omega) (by omega) (by omega) (by omega)
   ·show fs.length-(i+1)<fs.length-i;omega
   ·exact .cons (cI (by omega)) .nil
   ·exact HEnt.refl _
  refine jU 5126 ?_;refine jcc (fun h65=>?_) fun h65=>?_
  ·refine jU 501006 ?_
   refine jqe (jecP (rlabel_ac (vs.getD i V4.z).t) ?_)
   refine jU 530 ?_;refine jcc (fun h66=>?_) fun h66=>?_
   ·refine jU 516 ?_
    refine jR (jbr (jbr (jtr (jtr (jbr (jtr (jrt (hv:=?_))))))))
    refine cB (Eq.symm ?_)
    unfold rightRec
    rw [rightFs_bad fs vs i (by omega) (by omega) (by rw [rightF_7 (by omega)];simpa using h66)];rfl
   refine jU 8519200840040010 ?_
   refine jlend (i+1) ?_ ?_ (h5:=?_) (h7:=?_)
   ·refine ⟨by omega,?_⟩
    rw [rightFs_take fs vs i (by omega) (by omega),ha,Bool.true_and]
    first
    |(rw [rightF_0 (by omega)];simpa using h54)
    |(rw [rightF_3 (by omega),Bool.and_eq_true,decide_eq_true_eq,decide_eq_true_eq];omega)
    |(rw [rightF_6 (by omega),Bool.and_eq_true,decide_eq_true_eq,decide_eq_true_eq];omega)
    |(rw [rightF_7 (by omega)];simpa using h66)
    |(rw [rightF_9 (by omega),Bool.and_eq_true,decide_eq_true_eq,decide_eq_true_eq];omega)
    | exact rightF_x (by omega) (by omega) (by omega) (by omega) (by omega) (by omega)
   ·show fs.length-(i+1)<fs.length-i;omega
   ·exact .cons (cI (by omega)) .nil
   ·exact HEnt.refl _
  refine jU 5126 ?_;refine jcc (fun h69=>?_) fun h69=>?_
  rotate_left
  ·refine jU 8519200840040010 ?_
   refine jlend (i+1) ?_ ?_ (h5:=?_) (h7:=?_)
   ·refine ⟨by omega,?_⟩
    rw [rightFs_take fs vs i (by omega) (by omega),ha,Bool.true_and]
    first
    |(rw [rightF_0 (by omega)];simpa using h54)
    |(rw [rightF_3 (by omega),Bool.and_eq_true,decide_eq_true_eq,decide_eq_true_eq];omega)
    |(rw [rightF_6 (by omega),Bool.and_eq_true,decide_eq_true_eq,decide_eq_true_eq];omega)
    |(rw [rightF_7 (by omega)];simpa using h66)
    |(rw [rightF_9 (by omega),Bool.and_eq_true,decide_eq_true_eq,decide_eq_true_eq];omega)
    | exact rightF_x (by omega) (by omega) (by omega) (by omega) (by omega) (by omega)
   ·show fs.length-(i+1)<fs.length-i;omega
   ·exact .cons (cI (by omega)) .nil
   ·exact HEnt.refl _
  refine jU 1250906 ?_;refine jqsp 70 (fun g70=>?_) fun g70=>?_
  ·refine jU 516900058000444 ?_
   refine jR (jbr (jbr (jtr (jtr (jbr (jtr (jrt (hv:=?_))))))))
   refine cB (Eq.symm ?_)
   unfold rightRec
   rw [rightFs_bad fs vs i (by omega) (by omega) (by rw [rightF_9 (by omega),Bool.and_eq_false_iff,decide_eq_false_iff_not,decide_eq_false_iff_not];omega)];rfl
  refine jU 550025090 ?_;refine jcc (fun h70=>?_) fun h70=>?_
  ·refine jU 516 ?_
   refine jR (jbr (jbr (jtr (jtr (jbr (jtr (jrt (hv:=?_))))))))
   refine cB (Eq.symm ?_)
   unfold rightRec
   rw [rightFs_bad fs vs i (by omega) (by omega) (by rw [rightF_9 (by omega),Bool.and_eq_false_iff,decide_eq_false_iff_not,decide_eq_false_iff_not];omega)];rfl
  refine jU 8519200840040010 ?_
  refine jlend (i+1) ?_ ?_ (h5:=?_) (h7:=?_)
  ·refine ⟨by omega,?_⟩
   rw [rightFs_take fs vs i (by omega) (by omega),ha,Bool.true_and]
   first
   |(rw [rightF_0 (by omega)];simpa using h54)
   |(rw [rightF_3 (by omega),Bool.and_eq_true,decide_eq_true_eq,decide_eq_true_eq];omega)
   |(rw [rightF_6 (by omega),Bool.and_eq_true,decide_eq_true_eq,decide_eq_true_eq];omega)
   |(rw [rightF_7 (by omega)];simpa using h66)
   |(rw [rightF_9 (by omega),Bool.and_eq_true,decide_eq_true_eq,decide_eq_true_eq];omega)
   | exact rightF_x (by omega) (by omega) (by omega) (by omega) (by omega) (by omega)
  ·show fs.length-(i+1)<fs.length-i;omega
  ·exact .cons (cI (by omega)) .nil
  ·exact HEnt.refl _
set_option maxHeartbeats 4000000 in
theorem rsame19_ac {gs:List Nat} (vs:List V4) (hl:vs.length≤100):ACp gs Tryz.prog 21 [v4sC vs,v4sC vs] (.c (.bool true)):=by
 refine ac_of 69 Tryz.func21 rfl rfl rfl (fun al w0 F0 St0=>?_)
 refine jU 52313167516 ?_;refine jcc (fun h137=>?_) fun h137=>?_
 ·refine jU 516 ?_
  refine jR (jtr (jrt (hv:=?_)))
  exfalso;omega
 refine jU 20513167810 ?_;refine l_loop (α:=Nat) [4,5,13,14,15,16,17,18,19,20,21,22,23,24,25,26,27,28,29,30,31,32,33,34,35,36,37,38,39,40,41,42,43,44,45,46,47,48,49,50,51,52,53,54,55,56,57,58,59,60,61,62,63,64,65,66,67,68] (fun i=>[(13,.c (.int .i64 (i:Nat)))]) (fun _=>[]) (fun i=>i≤vs.length) (fun i=>vs.length-i) (0) ?_ (fun _=>rfl) ?_ ?_ ?_
 ·exact Nat.zero_le _
 ·exact .cons cZ .nil
 ·(repeat (exact HEnt.nil))
 ·rintro i (hi:i≤vs.length)
  refine jU 7526 ?_;refine jcc (fun h140=>?_) fun h140=>?_
  rotate_left
  ·refine jU 51684000200020006000 ?_
   refine jR (jrt (hv:=cZ))
  refine jU 75116207810 ?_;refine jcd (.rd 0 (.rd 1 (.rd 2 (.rd 3 (.rd 4 (.rd 5 (.rd 6 (.rd 7 (.rd 8 (.rd 9 (.rd 10 (.rd 11 (.rd 12 (.rd 13 (.rd 14 (.rd 15 (.rd 16 (.rd 17 (.rd 18 (.rd 19 (.rd 20 (.rd 21 (.rd 22 (.rd 23 (.rd 24 (.rd 25 (.rd 26 (.rd 27 (.rd 28 (.rd 29 (.rd 30 (.rd 31 (.rd 32 (.rd 33 (.rd 34 (.rd 35 (.rd 36 (.rd 37 (.rd 38 (.rd 39 (.rd 40 (.rd 41 (.rd 42 (.rd 43 (.rd 44 (.rd 45 (.rd 46 (.rd 47 (.rd 48 (.rd 49 (.rd 50 (.rd 51 .done)))))))))))))))))))))))))))))))))))))))))))))))))))) ?_;refine jU 708007000090000090000707070000900000900007070 ?_;refine jysp 27 (fun g141=>?_) fun g141=>?_
  ·refine jU 51690008803000000600600600600600600600600600600600703000000600600600600600600600600600600600600600703000000600600600600600600600600600600600 ?_
   refine jR (jbr (jtr (jtr (jbr (jtr (jrt (hv:=?_)))))))
   exfalso
   (simp_all;done)
  refine jU 700008000000900007070700008000000900007070 ?_;refine jyq jrcs ?_;refine jU 70300000 ?_;refine jysp 40 (fun g141_2=>?_) fun g141_2=>?_
  ·refine jU 51690008803000000600600600600600600600600600600600703000000600600600600600600600600600600600600600 ?_
   refine jR (jbr (jtr (jtr (jbr (jtr (jrt (hv:=?_)))))))
   exfalso
   (simp_all;done)
  refine jU 900007070 ?_;refine jyq (jrfa 2 1 false) ?_;refine jU 9000070703000000070000 ?_;refine jyq (jrfa 2 1 false) ?_;refine jU 3000000070000 ?_;refine jyq jrcs ?_;refine jU 70300000 ?_;refine jysp 55 (fun g141_3=>?_) fun g141_3=>?_
  ·refine jU 51690008803000000600600600600600600600600600600600 ?_
   refine jR (jbr (jtr (jtr (jbr (jtr (jrt (hv:=?_)))))))
   exfalso
   (simp_all;done)
  refine jU 900007070 ?_;refine jyq (jrfa 3 3 true) ?_;refine jyq (jrdrA 3) ?_;refine jU 900007070 ?_;refine jyq (jrfa 3 3 true) ?_;refine jyq (jrdrA 3) ?_;refine jyq (rd_neAgg rfl rfl rfl Tryz.underlying36 (by kernel_rfl) (by kernel_rfl) (.int Tryz.underlying3 (by decide) rfl rfl (.str Tryz.underlying9 (by decide) rfl rfl (.str Tryz.underlying9 (by decide) rfl rfl .nil))) rfl) ?_;refine jU 880300000 ?_;refine jcc (fun h141=>?_) fun h141=>?_
  ·refine jU 516 ?_
   refine jR (jbr (jtr (jtr (jbr (jtr (jrt (hv:=?_)))))))
   exfalso
   (simp_all;done)
  refine jU 8519200840010 ?_
  refine jlend (i+1) ?_ ?_ (h5:=?_)
  ·show i+1≤vs.length;omega
  ·show vs.length-(i+1)<vs.length-i;omega
  ·exact .cons (cI (by omega)) .nil
end
section
open Go.RowKit Cal
theorem rcase19_ac {gs:List Nat}:ACp gs Tryz.prog 18 [] (rrC 2 fsCase):=by
 refine ac_of 9 Tryz.func18 rfl rfl rfl (fun al w0 F0 St0=>?_)
 refine jcr ?_
 refine jqe (jeal (n:=2) zr43 rfl fun p1=>?_)
 refine jU 65 ?_;refine jq (rd_build (n:=3) rfl zr118 pl118 rfl rfl) ?_;refine jq (rd_build (n:=3) rfl zr118 pl118 rfl rfl) ?_;refine jq (rd_build (n:=3) rfl zr118 pl118 rfl rfl) ?_;refine jq (rd_build (n:=3) rfl zr118 pl118 rfl rfl) ?_;refine jq (rd_build (n:=3) rfl zr118 pl118 rfl rfl) ?_;refine jq (rd_build (n:=3) rfl zr118 pl118 rfl rfl) ?_
 refine jqe (jebl 18 3 zr118 fun p2=>?_)
 refine seq_ent (freeze 1 rfl) ?_;refine seq_ent (thaw 7 (fun a b=>fdE (fsCase.getD a Fd.z) b) rfl rfl (by decide) (fun a b ha hb=>by rcases a with _|_|_|_|_|_|a <;> (rcases b with _|_|_|b <;> first|exact cZ|omega))) ?_;refine jq (rd_build (n:=2) rfl zr43 pl43 rfl rfl) ?_
 refine jqm (jmstF 2 (rrE 2 fsCase) ?_ ?_)
 ·exact (fun j hj=>by rcases j with _|_|j <;> first|exact cZ|omega)
 refine jU 5 ?_
 refine jR (jrt (hres:=res_1 rfl (javA 2)) (hv:=CEnt.agg rfl (fun j hj=>by rcases j with _|_|j <;> exact cZ)))
theorem rmark19_ac {gs:List Nat}:ACp gs Tryz.prog 27 [] (rrC 4 fsMark):=by
 refine ac_of 7 Tryz.func27 rfl rfl rfl (fun al w0 F0 St0=>?_)
 refine jcr ?_
 refine jqe (jeal (n:=2) zr43 rfl fun p1=>?_)
 refine jU 65 ?_;refine jq (rd_build (n:=3) rfl zr118 pl118 rfl rfl) ?_;refine jq (rd_build (n:=3) rfl zr118 pl118 rfl rfl) ?_;refine jq (rd_build (n:=3) rfl zr118 pl118 rfl rfl) ?_;refine jq (rd_build (n:=3) rfl zr118 pl118 rfl rfl) ?_
 refine jqe (jebl 12 3 zr118 fun p2=>?_)
 refine seq_ent (freeze 1 rfl) ?_;refine seq_ent (thaw 5 (fun a b=>fdE (fsMark.getD a Fd.z) b) rfl rfl (by decide) (fun a b ha hb=>by rcases a with _|_|_|_|a <;> (rcases b with _|_|_|b <;> first|exact cZ|omega))) ?_;refine jq (rd_build (n:=2) rfl zr43 pl43 rfl rfl) ?_
 refine jqm (jmstF 2 (rrE 4 fsMark) ?_ ?_)
 ·exact (fun j hj=>by rcases j with _|_|j <;> first|exact cZ|omega)
 refine jU 5 ?_
 refine jR (jrt (hres:=res_1 rfl (javA 2)) (hv:=CEnt.agg rfl (fun j hj=>by rcases j with _|_|j <;> exact cZ)))
theorem rtick19_ac {gs:List Nat}:ACp gs Tryz.prog 29 [] (rrC 7 fsTick):=by
 refine ac_of 6 Tryz.func29 rfl rfl rfl (fun al w0 F0 St0=>?_)
 refine jcr ?_
 refine jqe (jeal (n:=2) zr43 rfl fun p1=>?_)
 refine jU 65 ?_;refine jq (rd_build (n:=3) rfl zr118 pl118 rfl rfl) ?_;refine jq (rd_build (n:=3) rfl zr118 pl118 rfl rfl) ?_;refine jq (rd_build (n:=3) rfl zr118 pl118 rfl rfl) ?_
 refine jqe (jebl 9 3 zr118 fun p2=>?_)
 refine seq_ent (freeze 1 rfl) ?_;refine seq_ent (thaw 4 (fun a b=>fdE (fsTick.getD a Fd.z) b) rfl rfl (by decide) (fun a b ha hb=>by rcases a with _|_|_|a <;> (rcases b with _|_|_|b <;> first|exact cZ|omega))) ?_;refine jq (rd_build (n:=2) rfl zr43 pl43 rfl rfl) ?_
 refine jqm (jmstF 2 (rrE 7 fsTick) ?_ ?_)
 ·exact (fun j hj=>by rcases j with _|_|j <;> first|exact cZ|omega)
 refine jU 5 ?_
 refine jR (jrt (hres:=res_1 rfl (javA 2)) (hv:=CEnt.agg rfl (fun j hj=>by rcases j with _|_|j <;> exact cZ)))
theorem riss19_ac {gs:List Nat}:ACp gs Tryz.prog 28 [] (rrC 6 fsIss):=by
 refine ac_of 5 Tryz.func28 rfl rfl rfl (fun al w0 F0 St0=>?_)
 refine jcr ?_
 refine jqe (jeal (n:=2) zr43 rfl fun p1=>?_)
 refine jU 65 ?_;refine jq (rd_build (n:=3) rfl zr118 pl118 rfl rfl) ?_;refine jq (rd_build (n:=3) rfl zr118 pl118 rfl rfl) ?_
 refine jqe (jebl 6 3 zr118 fun p2=>?_)
 refine seq_ent (freeze 1 rfl) ?_;refine seq_ent (thaw 3 (fun a b=>fdE (fsIss.getD a Fd.z) b) rfl rfl (by decide) (fun a b ha hb=>by rcases a with _|_|a <;> (rcases b with _|_|_|b <;> first|exact cZ|omega))) ?_;refine jq (rd_build (n:=2) rfl zr43 pl43 rfl rfl) ?_
 refine jqm (jmstF 2 (rrE 6 fsIss) ?_ ?_)
 ·exact (fun j hj=>by rcases j with _|_|j <;> first|exact cZ|omega)
 refine jU 5 ?_
 refine jR (jrt (hres:=res_1 rfl (javA 2)) (hv:=CEnt.agg rfl (fun j hj=>by rcases j with _|_|j <;> exact cZ)))
theorem good_take:∀ {fs:List Fd} {vs:List V4} (i:Nat),GoodFs fs vs→GoodFs (fs.take i) (vs.take i)
 | [],[],i,_=>by simp [GoodFs]
 | f::fs,v::vs,0,_=>trivial
 | f::fs,v::vs,i+1,h=>⟨h.1,good_take i h.2⟩
 | [],v::vs,_,h=>h.elim
 | f::fs,[],_,h=>h.elim
theorem good_get:∀ {fs:List Fd} {vs:List V4} {i:Nat},GoodFs fs vs→i<fs.length→GoodF (fs.getD i Fd.z) (vs.getD i V4.z)
 | f::fs,v::vs,0,h,_=>h.1
 | f::fs,v::vs,i+1,h,hi=>good_get (i:=i) h.2 (by simpa using hi)
 | [],_,_,_,hi=>absurd hi (Nat.not_lt_zero _)
 | f::fs,[],_,h,_=>h.elim
theorem ok_get {fs:List Fd} (ho:∀ f ∈ fs,OkF f) {i:Nat} (hi:i<fs.length):OkF (fs.getD i Fd.z):=by
 rw [List.getD_eq_getElem?_getD,List.getElem?_eq_getElem hi]
 exact ho _ (List.getElem_mem _)
theorem rput_take:∀ {fs:List Fd} {vs:List V4} (i:Nat) (r:R8),GoodFs fs vs→i<fs.length→rputFds (fs.take (i+1)) (vs.take (i+1)) r=rputFd (fs.getD i Fd.z) (vs.getD i V4.z) (rputFds (fs.take i) (vs.take i) r)
 | f::fs,v::vs,0,r,_,_=>rfl
 | f::fs,v::vs,i+1,r,h,hi=>rput_take i (rputFd f v r) h.2 (by simpa using hi)
 | [],_,_,_,_,hi=>absurd hi (Nat.not_lt_zero _)
 | f::fs,[],_,_,h,_=>h.elim
theorem fd_okV {f:Fd} {v:V4} (ho:OkF f) (h:GoodF f v) (h0:f.call≠0):OkV (fdV f v):=by
 obtain ⟨_,_,_,_,_,_,b7,b8,b9,_⟩:=fd_body ho h h0
 exact ⟨b7,by omega,by omega⟩
theorem fd_call {f:Fd} (ho:OkF f) (v:V4) (h0:f.call≠0):(fdV f v).kind=3∨(fdV f v).kind=4∨(fdV f v).kind=6∨(fdV f v).kind=7∨(fdV f v).kind=9:=by
 have e:(fdV f v).kind=f.call:=by unfold fdV;split <;> first|(rename_i h;exact h.symm)|rfl
 rw [e]
 unfold OkF at ho
 omega
theorem rfd_ac {gs:List Nat} (n:Nat) (r:R8) {f:Fd} {v:V4} (ho:OkF f) (h:GoodF f v) (h0:f.call≠0) (hr:OkRD r):AC gs Tryz.prog 80 [rwO n r] [.op 0 (some n) 0,valC (fdV f v)] (fun x H'=>x=.c (.tuple #[])∧H'=[rwO n (rputFd f v r)]):=by
 rw [show rputFd f v r=rdoS (fdV f v) r by unfold rputFd;rw [if_neg h0]]
 exact rdoWB_ac n r (fdV f v) hr (fd_okV ho h h0) fun _ _ _=>rbodyF_ac _ (fd_okV ho h h0) (fd_call ho v h0)
set_option maxHeartbeats 4000000 in
theorem rbytes19_ac {gs:List Nat} (kind:Int) (hk:KindOk kind) (fs:List Fd) (vs:List V4) (ho:∀ f ∈ fs,OkF f) (h8:fs.length≤8) (hg:GoodFs fs vs):ACp gs Tryz.prog 32 [rrC kind fs,v4sC vs] (bsC (recB kind fs vs)):=by
 have hlen:=good_length hg
 have hvl:vs.length≤8:=by omega
 have I0:=inv_rec0 hk
 have I1:=inv_do inv_00 (small_w1 (t:=48) (by decide))
 have hJ:∀ i,i≤fs.length→∃ w',Inv8 (2+14 * i) (rputFds (fs.take i) (vs.take i) (rdoS (vE kind) (rdoS (w1 48) r00))) w':=fun i hi=>by
  have:=inv_fds (fs:=fs.take i) (vs:=vs.take i) (fun f hf=>ho f (List.mem_of_mem_take hf)) (good_take i hg) I0
  rw [List.length_take,Nat.min_eq_left hi] at this
  exact ⟨_,this⟩
 have hI:=inv_rec hk ho hg
 have hsd:=same_done hI.same
 have hpr:=putRec_ok hk ho h8 hg
 refine ac_of 74 Tryz.func32 rfl rfl rfl (fun al w0 F0 St0=>?_)
 refine jcr ?_
 refine jqe (jebx 2 fun p1=>?_)
 refine jU 651 ?_;refine jq (rd_build (n:=3) rfl zr140 pl140 rfl rfl) ?_
 refine jqe (jebx 3 fun p2=>?_)
 refine jU 51 ?_;refine code_knowG (know_op 11 rfl) fun hn=>?_
 obtain ⟨n,rfl⟩:=hn
 refine jE (newRW n 1 rfl cZ cZ cZ) ?_
 dsimp only [List.set_cons_zero,List.set_cons_succ,List.cons_append,List.nil_append,List.length_cons,List.length_nil,Nat.zero_add,Nat.reduceAdd]
 refine jU 16 ?_;refine jq (rd_build (n:=5) rfl zr130 pl130 rfl rfl) ?_
 refine jqm (jmcH 1 (rdoW78_ac n r00 (w1 48) (inv_okR inv_00 (by decide)) (small_w1 (by decide)).ok (.inl rfl)) ?_ (ho:=rfl) (he:=(.cons (se rfl cP) (.cons (se rfl (CEnt.agg rfl (fun j hj=>by rcases j with _|_|_|_|_|j <;> first|exact cZ|exact cN))) .nil))))
 rintro _ _ ⟨rfl,rfl⟩
 refine ⟨_,_,rfl,cZ,?_⟩
 refine jU 5090165 ?_;refine jq (rd_build (n:=5) rfl zr130 pl130 rfl rfl) ?_
 refine jqm (jmcH 1 (rdoWB_ac n (rdoS (w1 48) r00) (vE kind) (inv_okR I1 (by decide)) (small_vE hk).ok (fun _ _ _=>rbodyF_ac _ (small_vE hk).ok (.inr (.inl rfl)))) ?_ (ho:=rfl) (he:=(.cons (se rfl cP) (.cons (se rfl (CEnt.agg rfl (fun j hj=>by rcases j with _|_|_|_|_|j <;> first|exact cZ|exact cN))) .nil))))
 rintro _ _ ⟨rfl,rfl⟩
 refine ⟨_,_,rfl,cZ,?_⟩
 refine jU 2051350100675 ?_;refine l_loop (α:=Nat) [6,7,23,24,25,26,27,28,29,30,31,32,33,34,35,36,37,38,39,40,41,42,43,44,45,46,47,48,49,50,51,52,53,54,55,56,57,58,59,60,61,62,63,64] (fun i=>[(23,.c (.int .i64 (i:Nat)))]) (fun i=>[(p1,.blk 2 (rrE kind fs)),rwO n (rputFds (fs.take i) (vs.take i) (rdoS (vE kind) (rdoS (w1 48) r00)))]) (fun i=>i≤fs.length) (fun i=>fs.length-i) (0) ?_ (fun _=>rfl) ?_ ?_ ?_
 ·exact Nat.zero_le _
 ·exact .cons cZ .nil
 ·exact .blk rfl (fun j hj=>by rcases j with _|_|j <;> exact cZ) (HEnt.refl _)
 ·rintro i (hi:i≤fs.length)
  refine jU 7526 ?_;refine jcc (fun h86=>?_) fun h86=>?_
  rotate_left
  ·refine jU 84000200020006000 ?_
   have hie:i=fs.length:=by omega
   obtain ⟨w',J0⟩:=hJ i hi
   subst hie
   rw [List.take_length,hlen,List.take_length] at *
   refine jU 16 ?_;refine jq (rd_build (n:=5) rfl zr130 pl130 rfl rfl) ?_
   refine jqm (jmcH 1 (rdoW78_ac n _ w2 (inv_okR J0 (by omega)) small_w2.ok (.inr (.inl rfl))) ?_ (ho:=rfl) (he:=(.cons (se rfl cP) (.cons (se rfl (CEnt.agg rfl (fun j hj=>by rcases j with _|_|_|_|_|j <;> first|exact cZ|exact cN))) .nil))))
   rintro _ _ ⟨rfl,rfl⟩
   refine ⟨_,_,rfl,cZ,?_⟩
   refine jU 165 ?_
   refine jqm (jmcH 1 ((by have h:=rdone08_ac (gs:=gs) n (rputRec kind fs vs) (inv_okR hI (by omega));rw [hsd.1,hsd.2,hpr.1,hpr.2] at h;exact h)) ?_)
   rintro _ _ ⟨rfl,rfl⟩
   refine ⟨_,_,rfl,cZ,?_⟩
   refine jU 51165119009001 ?_
   refine jR (jrt (hv:=cZ))
  refine jU 70016207810 ?_;refine jq (jrdrA 3) ?_
  refine jqe (jeal (n:=3) zr118 rfl fun p5=>?_)
  refine jU 1 ?_
  refine jqm (jmstF 3 (fdE (fs.getD i Fd.z)) ?_ ?_)
  ·exact (fun j hj=>by rcases j with _|_|_|j <;> first|exact cZ|omega)
  refine jU 5 ?_
  obtain ⟨w',J0⟩:=hJ i hi
  have of:=ok_get ho (i:=i) (by omega)
  have gf:=good_get hg (i:=i) (by omega)
  refine jU 5250906 ?_;refine jcc (fun h87=>?_) fun h87=>?_
  ·refine jU 700111200 ?_;refine jq (jrfa 3 3 true) ?_;refine jq (jrdrA 3) ?_
   refine jqm (jmcH 1 ((by have h:=rnput_ac (gs:=gs) n J0 (by omega) (vs.getD i V4.z).who;rw [show rputS9 (vs.getD i V4.z).who (rputFds (fs.take i) (vs.take i) (rdoS (vE kind) (rdoS (w1 48) r00)))=rputFd (fs.getD i Fd.z) (vs.getD i V4.z) (rputFds (fs.take i) (vs.take i) (rdoS (vE kind) (rdoS (w1 48) r00))) by unfold rputFd;rw [if_pos (by omega)]] at h;exact h)) ?_)
   rintro _ _ ⟨rfl,rfl⟩
   refine ⟨_,_,rfl,cZ,?_⟩
   refine jU 851920084005 ?_
   refine jlend (i+1) ?_ ?_ (h5:=?_) (h7:=?_)
   ·show i+1≤fs.length;omega
   ·show fs.length-(i+1)<fs.length-i;omega
   ·exact .cons (cI (by omega)) .nil
   ·rw [rput_take i _ hg (by omega)]
    exact HEnt.refl _
  refine jU 5250906 ?_;refine jcc (fun h89=>?_) fun h89=>?_
  ·refine jU 60100700111200 ?_;refine jq (rd_build (n:=5) rfl zr130 pl130 rfl rfl) ?_
   refine jqm (jmcH 1 (rfd_ac n _ of gf (by omega) (inv_okR J0 (by omega))) ?_ (ho:=rfl) (he:=(.cons (se rfl cP) (.cons (se rfl (by rw [show fdV (fs.getD i Fd.z) (vs.getD i V4.z)=⟨7,24,false,[],(vs.getD i V4.z).t⟩ by unfold fdV;rw [if_pos (by omega)]];exact CEnt.agg rfl (fun j hj=>by rcases j with _|_|_|_|_|j <;> first|exact cZ|exact cN))) .nil))))
   rintro _ _ ⟨rfl,rfl⟩
   refine ⟨_,_,rfl,cZ,?_⟩
   refine jU 851920084005 ?_
   refine jlend (i+1) ?_ ?_ (h5:=?_) (h7:=?_)
   ·show i+1≤fs.length;omega
   ·show fs.length-(i+1)<fs.length-i;omega
   ·exact .cons (cI (by omega)) .nil
   ·rw [rput_take i _ hg (by omega)]
    exact HEnt.refl _
  refine jcdB 14 (.rd 0 (.rd 1 (.rd 2 (.rd 3 (.rd 4 (.rd 5 (.rd 6 (.rd 7 (.rd 8 (.rd 9 (.rd 10 (.rd 11 (.rd 12 (.rd 13 .done)))))))))))))) ?_;refine jU 900007070700009000009000070701000090000070 ?_;refine jyq (jrfa 2 1 false) ?_;refine jyq jrdr ?_;refine jyq (rd_build (n:=5) rfl zr130 pl130 rfl rfl) ?_;refine jyd ?_
  show ASeq _ _ _ _ _ _
  refine jqm (jmcH 1 (rfd_ac n _ of gf (by omega) (inv_okR J0 (by omega))) ?_ (ho:=rfl) (he:=(.cons (se rfl cP) (.cons (se rfl (by rw [show fdV (fs.getD i Fd.z) (vs.getD i V4.z)=⟨(fs.getD i Fd.z).call,(vs.getD i V4.z).n,false,(vs.getD i V4.z).b,[]⟩ by unfold fdV;rw [if_neg (by omega)]];exact CEnt.agg rfl (fun j hj=>by rcases j with _|_|_|_|_|j <;> exact cZ))) .nil))))
  rintro _ _ ⟨rfl,rfl⟩
  refine ⟨_,_,rfl,cZ,?_⟩
  refine jU 851920084005 ?_
  refine jlend (i+1) ?_ ?_ (h5:=?_) (h7:=?_)
  ·show i+1≤fs.length;omega
  ·show fs.length-(i+1)<fs.length-i;omega
  ·exact .cons (cI (by omega)) .nil
  ·rw [rput_take i _ hg (by omega)]
   exact HEnt.refl _
end
section
open Go.RowKit Cal

end
section
open Go.RowKit Cal
def recsL:List (Int×List Fd):=[(2,fsCase),(3,fsAuth),(4,fsMark),(7,fsTick),(6,fsIss)]
structure OkRec (p:Int×List Fd):Prop where
 kind:KindOk p.1
 len:p.2.length≤8
 ok:∀ f ∈ p.2,OkF f
 spec:(p.1=2→6≤p.2.length)∧(p.1=3→5≤p.2.length)
end
section
section
variable {P:Program} {G:Gh} {o:Oper} {env:List (Nat×CV)} {b0:Nat→CV} {H:List (Option Nat×Res)} {K:AS→Prop}
theorem freeze_heap (w:World) (b k:Nat) {cur:Array Value} {ty:TypeId} (h:w.heap[b]?=some (.cells cur ty (0,0))):(w.freeze ⟨b,k,none⟩ 1).heap[b]?=some (.cells cur ty (k,k+1)):=by
 unfold World.freeze
 rw [if_neg (by decide)]
 simp only [Array.getElem?_modify,h,if_true,Option.map_some]
 rfl
theorem freeze_other (w:World) (b k q:Nat) (hq:q≠b):(w.freeze ⟨b,k,none⟩ 1).heap[q]?=w.heap[q]?:=by
 unfold World.freeze
 rw [if_neg (by decide)]
 simp only [Array.getElem?_modify]
 rw [if_neg (fun h=>hq h.symm)]
theorem freeze_size (w:World) (b k:Nat):(w.freeze ⟨b,k,none⟩ 1).heap.size=w.heap.size∧(w.freeze ⟨b,k,none⟩ 1).os=w.os∧(w.freeze ⟨b,k,none⟩ 1).tape=w.tape∧(w.freeze ⟨b,k,none⟩ 1).output=w.output:=by
 unfold World.freeze
 rw [if_neg (by decide)]
 exact ⟨by simp,rfl,rfl,rfl⟩
theorem RelSt.mark {St:Nat→Prop} {s:AS} {a:Act} {w:World} (h:RelSt G St s a w) {i g n:Nat} {f:Nat→CV} (hH:s.H[i]?=some (some g,.blk n f)) {cur:Array Value} {ty:TypeId} (hc:w.heap[g]?=some (.cells cur ty (0,0))) (k:Nat) :
  (∀ b,St b→b≠g)∧RelSt G (fun b=>St b∨b=g) ⟨s.env,s.b,s.H.set i (some g,.frz n f)⟩ a (w.freeze ⟨g,k,none⟩ 1):=by
 obtain ⟨fp,hp⟩:=h.hp
 have hlt:i<s.H.length:=(List.getElem?_eq_some_iff.1 hH).1
 have hrep:=hp.rep i (some g) _ hH
 have hg:fp i g:=(hrep.1 g).2 rfl
 obtain ⟨hg1,hg2,hg3⟩:=hp.own i g hg
 have hnew:=freeze_heap w g k hc
 have hold:∀ b,b≠g→(w.freeze ⟨g,k,none⟩ 1).heap[b]?=w.heap[b]?:=fun b hb=>freeze_other w g k b hb
 obtain ⟨hsz,ho,ht,hu⟩:=freeze_size w g k
 have hs:∀ b,St b→St b∨b=g:=fun _ h=>.inl h
 have hne:∀ b,St b→b≠g:=fun b hb e=>hg2 (e ▸ hb)
 have he:Evo St w (w.freeze ⟨g,k,none⟩ 1):=⟨fun b cu ct cz hb hcu=>(hold b (hne b hb)).trans hcu,fun b cu t z hb=>by
  by_cases e:b=g
  ·subst e
   rw [hc] at hb
   cases hb
   exact ⟨cur,_,hnew,rfl⟩
  ·exact ⟨cu,z,(hold b e).trans hb,rfl⟩⟩
 refine ⟨hne,h.df.keep hs (fun b hb=>hold b (hne b hb)),h.sz,fun d=>RepC.evo he hs _ _ (h.env d),⟨ho.trans h.un.os,ht.trans h.un.tape,hu.trans h.un.output,by rw [hsz];exact h.un.size,fun k hk hF=>?_,fun b cu t z hb=>?_⟩,fun b hb=>.inl (h.s1 b hb),fun b hb=>?_,fun b hb=>?_,?_,?_,fun q hq=>.inl (h.sg.1 q hq),fun x hx=>.inl (h.sg.2 x hx)⟩
 ·refine (hold k (fun e=>?_)).trans (h.un.block k hk hF)
  subst e
  rcases hg3 with h1|h1
  ·omega
  ·exact hF h1
 ·obtain ⟨cur',z',h1,h2⟩:=h.un.sh b cu t z hb
  obtain ⟨cur2,z2,h3,h4⟩:=he.sh b cur' t z' h1
  exact ⟨cur2,z2,h3,h4.trans h2⟩
 ·rcases hb with hb|rfl
  ·exact h.s2 b hb
  ·exact .inr hg3
 ·rw [hsz]
  rcases hb with hb|rfl
  ·exact h.s3 b hb
  ·exact hg1
 ·refine ⟨fun j b=>j≠i∧fp j b,fun j q r hj=>?_,fun j l b h1 h2=>hp.dis j l b h1.2 h2.2,fun j b h1=>?_,fun j hj b h1=>hp.out j (by simpa using hj) b h1.2⟩
  ·by_cases e:j=i
   ·subst e
    simp [hlt] at hj
    obtain ⟨rfl,rfl⟩:=hj
    obtain ⟨h0,cur',t',h1,h2,h3⟩:=hrep
    rw [hc] at h1
    cases h1
    exact ⟨fun b hb=>absurd rfl hb.1,.inr rfl,cur,ty,_,hnew,h2,fun m hm=>RepC.evo he hs _ _ (h3 m hm)⟩
   ·rw [List.getElem?_set_ne (Ne.symm e)] at hj
    have e2:(fun b=>j≠i∧fp j b)=fp j:=funext fun b=>propext ⟨fun h=>h.2,fun h=>⟨e,h⟩⟩
    show r.rep G.al _ _ (fun b=>j≠i∧fp j b) q
    rw [e2]
    exact Res.rep_evo he hs (fun b hF=>hold b (fun e3=>e (hp.dis j i b hF (e3 ▸ hg)))) (hp.rep j q r hj)
  ·obtain ⟨h2,h3,h4⟩:=hp.own j b h1.2
   exact ⟨by rw [hsz];exact h2,fun hb=>hb.elim h3 fun hb=>h1.1 (hp.dis j i b h1.2 (hb ▸ hg)),h4⟩
 ·exact SentL.keep h.sn (fun q hq=>hold q (hne q (h.sg.1 q hq))) (fun q hq=>hold _ (hne _ (h.sg.2 q hq)))
theorem md_conv {t:TypeId} {x:Operand} {i n N d:Nat} {g:Option Nat} {F:Nat→CV} {e:TypeId} (ho:o.op=.convert t t x) (hx:(⟨env,b0,H⟩:AS).eval x=.os i g 0 n 1) (hH:H[i]?=some (g,.blk N F)) (hn:0<n) (h1:P.underlying t=some (.slice e)) (h2:P.underlying e=some (.int .u8)) (hd:o.dst=some d) (hN:Nat.blt d G.N=true)
  (hK:K ⟨(d,.os i g 0 n 1)::env,b0,H.set i (g,.frz N F)⟩):AMd P G o ⟨env,b0,H⟩ K:=fun St a w hr Q=>by
 have hv:=evR hr hx
 cases g with
 | none=>have h:=hv.1;omega
 | some g =>
  obtain ⟨cap,hval,c1,c2,cur,ty,z,h3,h4⟩:=hv
  obtain ⟨fp,hp⟩:=hr.hp
  obtain ⟨h00,cur',ty',hh,hle,hcell⟩:=hp.rep i (some g) _ hH
  rw [hh] at h3
  cases h3
  obtain ⟨hne,hm⟩:=hr.mark hH hh cur.size
  have hsh:w.shape? g=some (ty,cur.size):=by simp [World.shape?,hh]
  have hrun:(execOp a.eval o).run P w=.ok (.value (.slice (some ⟨g,0,none⟩) n cap)) (w.freeze ⟨g,cur.size,none⟩ 1):=by
   simp only [execOp,ho,hval]
   refine vOk ?_
   simp [convert,underlying,h1,h2,markStringish,hsh]
  unfold Oper.wp
  rw [hrun]
  refine ⟨fun q hq=>freeze_other w g _ q (hne q hq),fun b=>St b∨b=g,fun _ h=>.inl h,_,hK,?_⟩
  have h5:=hm.put (dst:=o.dst) (v:=.os i (some g) 0 n 1) (x:=.slice (some ⟨g,0,none⟩) n cap) (dst_of (dst_s hd hN)) ⟨cap,rfl,c1,c2,cur,ty,_,freeze_heap w g _ hh,h4⟩
  rw [hd] at h5 ⊢
  exact h5
theorem jmcv {t:TypeId} {x:Operand} {i n N d:Nat} {g:Option Nat} {F:Nat→CV} (hK:K ⟨(d,.os i g 0 n 1)::env,b0,H.set i (g,.frz N F)⟩) (ho:o.op=.convert t t x:=by exact rfl) (hx:(⟨env,b0,H⟩:AS).eval x=.os i g 0 n 1:=by exact rfl) (hH:H[i]?=some (g,.blk N F):=by exact rfl) (hn:0<n:=by decide) (hT:jbyT P t=true:=by kernel_rfl) (hd:o.dst=some d:=by exact rfl) (hN:Nat.blt d G.N=true:=by exact rfl):AMd P G o ⟨env,b0,H⟩ K:=by
 obtain ⟨e,h1,h2⟩:=jbyT_ok hT
 exact md_conv ho hx hH hn h1 h2 hd hN hK
end
end
section
open Go.RowKit Cal
def caseV (who:S3) (rq:List UInt8) (cr vd:Int) (bd ct:List UInt8):List V4:=[⟨0,[],[],who⟩,⟨0,[],rq,zeroS⟩,⟨cr,[],[],zeroS⟩,⟨vd,[],[],zeroS⟩,⟨0,[],bd,zeroS⟩,⟨0,[],ct,zeroS⟩]
def authV (gn:Int) (dr:List UInt8) (ph fr tt la gi:Int):List V4:=[⟨gn,[],[],zeroS⟩,⟨0,[],dr,zeroS⟩,⟨ph,[],[],zeroS⟩,⟨fr,[],[],zeroS⟩,⟨tt,[],[],zeroS⟩,⟨la,[],[],zeroS⟩,⟨gi,[],[],zeroS⟩]
def markV (gn se at_ na:Int):List V4:=[⟨gn,[],[],zeroS⟩,⟨se,[],[],zeroS⟩,⟨at_,[],[],zeroS⟩,⟨na,[],[],zeroS⟩]
def tickV (nd se:List UInt8) (ex:Int):List V4:=[⟨0,nd,[],zeroS⟩,⟨0,[],se,zeroS⟩,⟨ex,[],[],zeroS⟩]
def issV (bd tk:List UInt8):List V4:=[⟨0,[],bd,zeroS⟩,⟨0,[],tk,zeroS⟩]
theorem norm_case (who:S3) (rq:List UInt8) (cr vd:Int) (bd ct:List UInt8):NormFs fsCase (caseV who rq cr vd bd ct) :=
 ⟨.inl ⟨rfl,rfl⟩,.inr (.inr (.inl ⟨rfl,rfl⟩)),.inr (.inr (.inr (.inr ⟨rfl,rfl⟩))),.inr (.inl ⟨.inr rfl,rfl⟩),.inr (.inr (.inl ⟨rfl,rfl⟩)),.inr (.inr (.inl ⟨rfl,rfl⟩)),trivial⟩
theorem norm_mark (gn se at_ na:Int):NormFs fsMark (markV gn se at_ na) :=
 ⟨.inr (.inl ⟨.inl rfl,rfl⟩),.inr (.inl ⟨.inl rfl,rfl⟩),.inr (.inr (.inr (.inr ⟨rfl,rfl⟩))),.inr (.inr (.inr (.inr ⟨rfl,rfl⟩))),trivial⟩
theorem norm_tick (nd se:List UInt8) (ex:Int):NormFs fsTick (tickV nd se ex) :=
 ⟨.inr (.inr (.inr (.inl ⟨rfl,rfl⟩))),.inr (.inr (.inl ⟨rfl,rfl⟩)),.inr (.inr (.inr (.inr ⟨rfl,rfl⟩))),trivial⟩
theorem norm_iss (bd tk:List UInt8):NormFs fsIss (issV bd tk):=⟨.inr (.inr (.inl ⟨rfl,rfl⟩)),.inr (.inr (.inl ⟨rfl,rfl⟩)),trivial⟩
theorem told_bad {gs:List Nat} [OkG gs] (kind:Int) (fs:List Fd) (vs:List V4) (h8:fs.length≤8) (hl:vs.length=fs.length) (hs:(kind=2→6≤fs.length)∧(kind=3→5≤fs.length)) (hr:rightRec kind fs vs=false):ACp gs Tryz.prog 17 [rrC kind fs,v4sC vs,bsC [],.err 4] (.c (.bool true)):=by
 refine ac_of 39 Tryz.func17 rfl rfl rfl (fun al w0 F0 St0=>?_)
 refine jcr ?_
 refine jqe (jebx 2 fun p1=>?_)
 refine jU 6751 ?_;refine jqo (jrdoA 2) ?_;refine jU 1 ?_
 refine jqe (jecP ((by have h:=rright19_ac (gs:=gs) kind fs vs h8 hl hs;rw [hr] at h;exact h)) ?_ (ho:=rfl) (he:=(.cons (se rfl (CEnt.agg rfl (fun j hj=>by rcases j with _|_|j <;> exact cZ))) (.cons (se rfl cZ) .nil))))
 refine jU 530 ?_;refine jcc (fun h43=>?_) fun h43=>?_
 rotate_left
 ·exfalso;exact absurd h43 (by decide)
 refine jU 12316 ?_;refine jqsp 16 (fun g44=>?_) fun g44=>?_
 ·refine jU 1 ?_
  refine jqe (jecP (num_ac 4 (by decide)) ?_)
  refine jU 5180002 ?_
  refine jR (jtr (jrt (hv:=?_)))
  (refine cB ?_;rfl)
 refine jU 51500444 ?_
 refine jR (jtr (jrt (hv:=?_)))
 (exfalso;simp_all;done)
theorem told_ok {gs:List Nat} [OkG gs] [OkT gs] (kind:Int) (fs:List Fd) (vs:List V4) (hk:KindOk kind) (ho:∀ f ∈ fs,OkF f) (h8:fs.length≤8) (hs:(kind=2→6≤fs.length)∧(kind=3→5≤fs.length)) (hn:NormFs fs vs) (hr:rightRec kind fs vs=true) (hK:kindB (recB kind fs vs)=kind):ACp gs Tryz.prog 17 [rrC kind fs,v4sC vs,bsC (recB kind fs vs),.err 0] (.c (.bool true)):=by
 have hg:GoodFs fs vs:=by
  have h:=hr
  unfold rightRec at h
  rw [Bool.and_eq_true] at h
  exact goods_right hn h.1
 have hl:=(good_length hg).symm
 have hb:=(rec_len hk ho h8 hg).2
 refine ac_of 39 Tryz.func17 rfl rfl rfl (fun al w0 F0 St0=>?_)
 refine jcr ?_
 refine jqe (jebx 2 fun p1=>?_)
 refine jU 6751 ?_;refine jqo (jrdoA 2) ?_;refine jU 1 ?_
 refine jqe (jecP ((by have h:=rright19_ac (gs:=gs) kind fs vs h8 hl hs;rw [hr] at h;exact h)) ?_ (ho:=rfl) (he:=(.cons (se rfl (CEnt.agg rfl (fun j hj=>by rcases j with _|_|j <;> exact cZ))) (.cons (se rfl cZ) .nil))))
 refine jU 530 ?_;refine jcc (fun h43=>?_) fun h43=>?_
 ·exfalso;exact absurd h43 (by decide)
 refine jU 7810 ?_;refine jcd (.rd 0 (.rd 1 (.rd 2 (.rd 3 (.rd 4 (.rd 5 (.rd 6 (.one 7 (.rd 8 (.rd 9 (.rd 10 (.rd 11 (.rd 12 (.rd 14 (.rd 15 (.one 13 (.rd 16 (.rd 17 (.rd 18 .done))))))))))))))))))) ?_;refine jU 70 ?_;refine jyq jre ?_;refine jU 70 ?_;refine jysp 23 (fun g46=>?_) fun g46=>?_
 rotate_left
 ·refine jU 600600600600 ?_;refine jys1 ?_;refine jU 60060060070300000600600 ?_;refine jys1 ?_;refine jU 88070300000600 ?_
  refine jR (jrt (hv:=?_))
  refine cB ?_
  (simp_all;done)
 refine jU 70 ?_;refine jyq (rd_convBS rfl rfl Tryz.underlying22 Tryz.underlying5 Tryz.underlying9) ?_;refine jyo (jrdoA 2) ?_;refine jU 70 ?_
 refine jye (jecP (rbytes19_ac kind hk fs vs ho h8 hg) ?_ (ho:=rfl) (he:=(.cons (se rfl (CEnt.agg rfl (fun j hj=>by rcases j with _|_|j <;> exact cZ))) (.cons (se rfl cZ) .nil))))
 refine jyq (rd_convBS rfl rfl Tryz.underlying22 Tryz.underlying5 Tryz.underlying9) ?_;refine jyq (rd_eqS rfl rfl rfl) ?_;refine jU 703000000 ?_;refine jysp 32 (fun g46_2=>?_) fun g46_2=>?_
 ·refine jU 1000090000070 ?_
  refine jye (jecP ((by have h:=kind19_ac (gs:=gs) (recB kind fs vs) (by omega);rw [hK] at h;exact h)) ?_)
  refine jU 880703000000800 ?_
  refine jR (jrt (hv:=?_))
  refine cB ?_
  (simp;done)
 refine jU 600600600 ?_;refine jys1 ?_;refine jU 88070300000600 ?_
 refine jR (jrt (hv:=?_))
 refine cB ?_
 (simp_all;done)
theorem told19_ac {gs:List Nat} [OkG gs] [OkT gs] (kind:Int) (fs:List Fd) (vs:List V4) (hk:KindOk kind) (ho:∀ f ∈ fs,OkF f) (h8:fs.length≤8) (hl:vs.length=fs.length) (hs:(kind=2→6≤fs.length)∧(kind=3→5≤fs.length)) (hn:NormFs fs vs) (hK:rightRec kind fs vs=true→kindB (recB kind fs vs)=kind):ACp gs Tryz.prog 17 [rrC kind fs,v4sC vs,bsC (if rightRec kind fs vs=true then recB kind fs vs else []),.err (if rightRec kind fs vs=true then 0 else 4)] (.c (.bool true)):=by
 cases hr:rightRec kind fs vs with
 | true=>exact told_ok kind fs vs hk ho h8 hs hn hr (hK hr)
 | false=>exact told_bad kind fs vs h8 hl hs hr
def exA:List V4:=caseV (1,[],[97]) [114] 0 1 [] []
def exB:List V4:=caseV (1,[],[97]) [114] 0 1 [] [99]
theorem ex_right:rightRec 2 fsCase exA=true∧rightRec 2 fsCase exB=false∧10<(recB 2 fsCase exA).length:=by decide +kernel
theorem alive19_ac {gs:List Nat} [OkG gs] [OkT gs]:ACp gs Tryz.prog 15 [] (.c (.bool true)):=by
 obtain ⟨ra,rb,rl⟩:=ex_right
 have hA:=bytesCase_ac (gs:=gs) _ _ _ _ _ _ (norm_case (1,[],[97]) [114] 0 1 [] [])
 have hB:=bytesCase_ac (gs:=gs) _ _ _ _ _ _ (norm_case (1,[],[97]) [114] 0 1 [] [99])
 have ra':rightRec 2 fsCase (caseV (1,[],[97]) [114] 0 1 [] [])=true:=ra
 have rb':rightRec 2 fsCase (caseV (1,[],[97]) [114] 0 1 [] [99])=false:=rb
 have rl':(10:Int)<((recB 2 fsCase [⟨0,[],[],(1,[],[97])⟩,⟨0,[],[114],zeroS⟩,⟨0,[],[],zeroS⟩,⟨1,[],[],zeroS⟩,⟨0,[],[],zeroS⟩,⟨0,[],[],zeroS⟩]).length:Nat):=Int.ofNat_lt.2 rl
 refine ac_of 35 Tryz.func15 rfl rfl rfl (fun al w0 F0 St0=>?_)
 refine jU 6516 ?_;refine jq (rd_build (n:=3) rfl zr36 pl36 rfl rfl) ?_
 refine jqe (jebl 1 1 zr5 fun p1=>?_)
 refine jqm (jmcv ?_)
 refine seq_ent (thawBL 8 [114] rfl rfl rfl rfl (.cons cZ .nil)) ?_;refine jq (rd_build (n:=8) rfl zr38 pl38 rfl rfl) ?_
 refine jqe (jeal (n:=8) zr38 rfl fun p2=>?_)
 refine jqm (jmstF 8 (caseF exA) ?_ ?_)
 ·exact (fun j hj=>by rcases j with _|_|_|_|_|_|_|_|j <;> first|exact cZ|exact cN|omega)
 refine jU 65 ?_;refine jqo (jrdoA 8) ?_
 refine jqe (jecP ((by have h:=hA;unfold caseV at ra';erw [if_pos ra',if_pos ra'] at h;exact h)) ?_ (ho:=rfl) (he:=(.cons (se rfl (CEnt.agg rfl (fun j hj=>by rcases j with _|_|_|_|_|_|_|_|j <;> exact cZ))) .nil)))
 refine jU 65119009001 ?_
 refine jqe (jebl 1 1 zr5 fun p3=>?_)
 refine jqm (jmcv ?_)
 refine seq_ent (thawBL 16 [99] rfl rfl rfl rfl (.cons cZ .nil)) ?_;refine jq (jrfa 7 1 false) ?_
 refine jqm (jmstF 1 (caseF exB) ?_ ?_)
 ·exact (fun j hj=>by rcases j with _|_|_|_|_|_|_|_|j <;> exact cZ)
 refine jU 65 ?_;refine jqo (jrdoA 8) ?_
 refine jqe (jecP ((by have h:=hB;unfold caseV at rb';erw [if_neg (by rw [rb'];decide),if_neg (by rw [rb'];decide)] at h;exact h)) ?_ (ho:=rfl) (he:=(.cons (se rfl (CEnt.agg rfl (fun j hj=>by rcases j with _|_|_|_|_|_|_|_|j <;> exact cZ))) .nil)))
 refine jU 1500000165119009001 ?_;refine jqsp 25 (fun g17=>?_) fun g17=>?_
 rotate_left
 ·refine jU 515004441500444 ?_
  refine jR (jrt (hv:=?_))
  first
  |(exfalso;omega)
  |(refine cB ?_;first|rfl|(simp;done)|(rw [decide_eq_true rl'];rfl)|(simp_all;done))
 refine jU 18000231 ?_;refine jqsp 30 (fun g17_2=>?_) fun g17_2=>?_
 ·refine jU 1 ?_
  refine jqe (jecP (num_ac 4 (by decide)) ?_)
  refine jU 5180002 ?_
  refine jR (jrt (hv:=?_))
  first
  |(exfalso;omega)
  |(refine cB ?_;rfl)
 refine jU 51500444 ?_
 refine jR (jrt (hv:=?_))
 first
 |(exfalso;omega)
 |(refine cB ?_;first|rfl|(simp;done)|(rw [decide_eq_true rl'];rfl)|(simp_all;done))
end
section
open Go.RowKit Cal
theorem ofauth_ac {gs:List Nat} (gn:Int) (dr:List UInt8) (ph fr tt la gi:Int):ACp gs Tryz.prog 24 [.agg 7 (authF (authV gn dr ph fr tt la gi))] (v4sC (authV gn dr ph fr tt la gi)):=by
 refine ac_of 25 Tryz.func24 rfl rfl rfl (fun al w0 F0 St0=>?_)
 refine jcr ?_
 refine jqe (jebx 7 fun p1=>?_)
 refine jU 5090651 ?_;refine jq (rd_build (n:=6) rfl zr120 pl120 rfl rfl) ?_;refine jU 50100 ?_;refine jq (rd_build (n:=6) rfl zr120 pl120 rfl rfl) ?_;refine jU 501000 ?_;refine jq (rd_build (n:=6) rfl zr120 pl120 rfl rfl) ?_;refine jU 505000000 ?_;refine jq (rd_build (n:=6) rfl zr120 pl120 rfl rfl) ?_;refine jU 507000000 ?_;refine jq (rd_build (n:=6) rfl zr120 pl120 rfl rfl) ?_;refine jU 506000000 ?_;refine jq (rd_build (n:=6) rfl zr120 pl120 rfl rfl) ?_;refine jU 5020000000 ?_;refine jq (rd_build (n:=6) rfl zr120 pl120 rfl rfl) ?_
 refine jqe (jebl 42 6 zr120 (l:=[.c (.int .i64 gn),strC [],.c (.slice none 0 0),.c (.int .i64 0),strC [],strC [],.c (.int .i64 0),strC [],bsC dr,.c (.int .i64 0),strC [],strC [],.c (.int .i64 ph),strC [],.c (.slice none 0 0),.c (.int .i64 0),strC [],strC [],.c (.int .i64 fr),strC [],.c (.slice none 0 0),.c (.int .i64 0),strC [],strC [],.c (.int .i64 tt),strC [],.c (.slice none 0 0),.c (.int .i64 0),strC [],strC [],.c (.int .i64 la),strC [],.c (.slice none 0 0),.c (.int .i64 0),strC [],strC [],.c (.int .i64 gi),strC [],.c (.slice none 0 0),.c (.int .i64 0),strC [],strC []]) (hf:=by kernel_rfl) fun p2=>?_)
 refine jU 51 ?_;refine jE (freeze 1 rfl) ?_;refine jE (thaw 2 (fun a b=>v4E ((authV gn dr ph fr tt la gi).getD a V4.z) b) rfl rfl (by decide) (fun a b ha hb=>by rcases a with _|_|_|_|_|_|_|a <;> (rcases b with _|_|_|_|_|_|b <;> first|exact cZ|exact cN|omega))) ?_
 refine jR (jrt (hv:=cZ))
theorem ofmark_ac {gs:List Nat} (gn se at_ na:Int):ACp gs Tryz.prog 39 [.agg 4 (markF (markV gn se at_ na))] (v4sC (markV gn se at_ na)):=by
 refine ac_of 16 Tryz.func39 rfl rfl rfl (fun al w0 F0 St0=>?_)
 refine jcr ?_
 refine jqe (jebx 4 fun p1=>?_)
 refine jU 5090651 ?_;refine jq (rd_build (n:=6) rfl zr120 pl120 rfl rfl) ?_;refine jU 50100 ?_;refine jq (rd_build (n:=6) rfl zr120 pl120 rfl rfl) ?_;refine jU 501000 ?_;refine jq (rd_build (n:=6) rfl zr120 pl120 rfl rfl) ?_;refine jU 505000000 ?_;refine jq (rd_build (n:=6) rfl zr120 pl120 rfl rfl) ?_
 refine jqe (jebl 24 6 zr120 (l:=[.c (.int .i64 gn),strC [],.c (.slice none 0 0),.c (.int .i64 0),strC [],strC [],.c (.int .i64 se),strC [],.c (.slice none 0 0),.c (.int .i64 0),strC [],strC [],.c (.int .i64 at_),strC [],.c (.slice none 0 0),.c (.int .i64 0),strC [],strC [],.c (.int .i64 na),strC [],.c (.slice none 0 0),.c (.int .i64 0),strC [],strC []]) (hf:=by kernel_rfl) fun p2=>?_)
 refine jU 51 ?_;refine jE (freeze 1 rfl) ?_;refine jE (thaw 2 (fun a b=>v4E ((markV gn se at_ na).getD a V4.z) b) rfl rfl (by decide) (fun a b ha hb=>by rcases a with _|_|_|_|a <;> (rcases b with _|_|_|_|_|_|b <;> first|exact cZ|exact cN|omega))) ?_
 refine jR (jrt (hv:=cZ))
theorem mark_told {gs:List Nat} [OkG gs] [OkT gs] (gn se at_ na:Int):ACp gs Tryz.prog 17 [rrC 4 fsMark,v4sC (markV gn se at_ na),bsC (if rightRec 4 fsMark (markV gn se at_ na)=true then recB 4 fsMark (markV gn se at_ na) else []),.err (if rightRec 4 fsMark (markV gn se at_ na)=true then 0 else 4)] (.c (.bool true)) :=
 told19_ac 4 fsMark _ (by unfold KindOk;decide) ok_mark (by decide) rfl (by decide) (norm_mark gn se at_ na) (kind_mark (norm_mark gn se at_ na))
theorem mark_len (gn se at_ na:Int) (h:rightRec 4 fsMark (markV gn se at_ na)=true):(recB 4 fsMark (markV gn se at_ na)).length≤33100:=by
 unfold rightRec at h
 rw [Bool.and_eq_true] at h
 exact (rec_len (by unfold KindOk;decide) ok_mark (by decide) (goods_right (norm_mark gn se at_ na) h.1)).2
theorem mark_fwd (gn se at_ na:Int) (h:rightRec 4 fsMark (markV gn se at_ na)=true):recM 4 fsMark (recB 4 fsMark (markV gn se at_ na))=(markV gn se at_ na,0):=recM_fwd (by unfold KindOk;decide) ok_mark (by decide) (norm_mark gn se at_ na) h
theorem oftick_ac {gs:List Nat} (nd se:List UInt8) (ex:Int):ACp gs Tryz.prog 40 [.agg 3 (tickF (tickV nd se ex))] (v4sC (tickV nd se ex)):=by
 refine ac_of 13 Tryz.func40 rfl rfl rfl (fun al w0 F0 St0=>?_)
 refine jcr ?_
 refine jqe (jebx 3 fun p1=>?_)
 refine jU 5090651 ?_;refine jq (rd_build (n:=6) rfl zr120 pl120 rfl rfl) ?_;refine jU 50100 ?_;refine jq (rd_build (n:=6) rfl zr120 pl120 rfl rfl) ?_;refine jU 501000 ?_;refine jq (rd_build (n:=6) rfl zr120 pl120 rfl rfl) ?_
 refine jqe (jebl 18 6 zr120 (l:=[.c (.int .i64 0),strC nd,.c (.slice none 0 0),.c (.int .i64 0),strC [],strC [],.c (.int .i64 0),strC [],bsC se,.c (.int .i64 0),strC [],strC [],.c (.int .i64 ex),strC [],.c (.slice none 0 0),.c (.int .i64 0),strC [],strC []]) (hf:=by kernel_rfl) fun p2=>?_)
 refine jU 51 ?_;refine jE (freeze 1 rfl) ?_;refine jE (thaw 2 (fun a b=>v4E ((tickV nd se ex).getD a V4.z) b) rfl rfl (by decide) (fun a b ha hb=>by rcases a with _|_|_|a <;> (rcases b with _|_|_|_|_|_|b <;> first|exact cZ|exact cN|omega))) ?_
 refine jR (jrt (hv:=cZ))
theorem tick_told {gs:List Nat} [OkG gs] [OkT gs] (nd se:List UInt8) (ex:Int):ACp gs Tryz.prog 17 [rrC 7 fsTick,v4sC (tickV nd se ex),bsC (if rightRec 7 fsTick (tickV nd se ex)=true then recB 7 fsTick (tickV nd se ex) else []),.err (if rightRec 7 fsTick (tickV nd se ex)=true then 0 else 4)] (.c (.bool true)) :=
 told19_ac 7 fsTick _ (by unfold KindOk;decide) ok_tick (by decide) rfl (by decide) (norm_tick nd se ex) (kind_tick (norm_tick nd se ex))
theorem tick_len (nd se:List UInt8) (ex:Int) (h:rightRec 7 fsTick (tickV nd se ex)=true):(recB 7 fsTick (tickV nd se ex)).length≤33100:=by
 unfold rightRec at h
 rw [Bool.and_eq_true] at h
 exact (rec_len (by unfold KindOk;decide) ok_tick (by decide) (goods_right (norm_tick nd se ex) h.1)).2
theorem tick_fwd (nd se:List UInt8) (ex:Int) (h:rightRec 7 fsTick (tickV nd se ex)=true):recM 7 fsTick (recB 7 fsTick (tickV nd se ex))=(tickV nd se ex,0):=recM_fwd (by unfold KindOk;decide) ok_tick (by decide) (norm_tick nd se ex) h
theorem ofiss_ac {gs:List Nat} (bd tk:List UInt8):ACp gs Tryz.prog 41 [.agg 2 (issF (issV bd tk))] (v4sC (issV bd tk)):=by
 refine ac_of 10 Tryz.func41 rfl rfl rfl (fun al w0 F0 St0=>?_)
 refine jcr ?_
 refine jqe (jebx 2 fun p1=>?_)
 refine jU 5090651 ?_;refine jq (rd_build (n:=6) rfl zr120 pl120 rfl rfl) ?_;refine jU 50100 ?_;refine jq (rd_build (n:=6) rfl zr120 pl120 rfl rfl) ?_
 refine jqe (jebl 12 6 zr120 (l:=[.c (.int .i64 0),strC [],bsC bd,.c (.int .i64 0),strC [],strC [],.c (.int .i64 0),strC [],bsC tk,.c (.int .i64 0),strC [],strC []]) (hf:=by kernel_rfl) fun p2=>?_)
 refine jU 51 ?_;refine jE (freeze 1 rfl) ?_;refine jE (thaw 2 (fun a b=>v4E ((issV bd tk).getD a V4.z) b) rfl rfl (by decide) (fun a b ha hb=>by rcases a with _|_|a <;> (rcases b with _|_|_|_|_|_|b <;> first|exact cZ|omega))) ?_
 refine jR (jrt (hv:=cZ))
theorem iss_told {gs:List Nat} [OkG gs] [OkT gs] (bd tk:List UInt8):ACp gs Tryz.prog 17 [rrC 6 fsIss,v4sC (issV bd tk),bsC (if rightRec 6 fsIss (issV bd tk)=true then recB 6 fsIss (issV bd tk) else []),.err (if rightRec 6 fsIss (issV bd tk)=true then 0 else 4)] (.c (.bool true)) :=
 told19_ac 6 fsIss _ (by unfold KindOk;decide) ok_iss (by decide) rfl (by decide) (norm_iss bd tk) (kind_iss (norm_iss bd tk))
theorem iss_len (bd tk:List UInt8) (h:rightRec 6 fsIss (issV bd tk)=true):(recB 6 fsIss (issV bd tk)).length≤33100:=by
 unfold rightRec at h
 rw [Bool.and_eq_true] at h
 exact (rec_len (by unfold KindOk;decide) ok_iss (by decide) (goods_right (norm_iss bd tk) h.1)).2
theorem iss_fwd (bd tk:List UInt8) (h:rightRec 6 fsIss (issV bd tk)=true):recM 6 fsIss (recB 6 fsIss (issV bd tk))=(issV bd tk,0):=recM_fwd (by unfold KindOk;decide) ok_iss (by decide) (norm_iss bd tk) h
end
section
open Go.RowKit Cal
set_option maxHeartbeats 4000000 in
theorem objectsOthers_ac {gs:List Nat} [OkG gs] [OkT gs] (gn sr at_ na:Int) (nd sc:List UInt8) (ex:Int) (bd tk:List UInt8):ACp gs Tryz.prog 7 [.agg 4 (markF (markV gn sr at_ na)),.agg 3 (tickF (tickV nd sc ex)),.agg 2 (issF (issV bd tk))] (.c (.bool true)):=by
 have bM:=bytesMark_ac (gs:=gs) _ _ _ _ (norm_mark gn sr at_ na)
 have bT:=bytesTick_ac (gs:=gs) _ _ _ (norm_tick nd sc ex)
 have bI:=bytesIss_ac (gs:=gs) _ _ (norm_iss bd tk)
 have tM:=mark_told (gs:=gs) gn sr at_ na
 have tT:=tick_told (gs:=gs) nd sc ex
 have tI:=iss_told (gs:=gs) bd tk
 have oM:=ofmark_ac (gs:=gs) gn sr at_ na
 have oT:=oftick_ac (gs:=gs) nd sc ex
 have oI:=ofiss_ac (gs:=gs) bd tk
 have fM:=mark_fwd gn sr at_ na
 have fT:=tick_fwd nd sc ex
 have fI:=iss_fwd bd tk
 have lM:=mark_len gn sr at_ na
 have lT:=tick_len nd sc ex
 have lI:=iss_len bd tk
 obtain ⟨M,hM⟩:∃ M,M=markV gn sr at_ na:=⟨_,rfl⟩
 obtain ⟨T,hT⟩:∃ T,T=tickV nd sc ex:=⟨_,rfl⟩
 obtain ⟨I,hI⟩:∃ I,I=issV bd tk:=⟨_,rfl⟩
 have bM':ACp gs Tryz.prog 36 [.agg 4 (markF M)] (.tup 2 (fl [bsC (if rightRec 4 fsMark M=true then recB 4 fsMark M else []),.err (if rightRec 4 fsMark M=true then 0 else 4)])):=by rw [hM];exact bM
 have bT':ACp gs Tryz.prog 37 [.agg 3 (tickF T)] (.tup 2 (fl [bsC (if rightRec 7 fsTick T=true then recB 7 fsTick T else []),.err (if rightRec 7 fsTick T=true then 0 else 4)])):=by rw [hT];exact bT
 have bI':ACp gs Tryz.prog 38 [.agg 2 (issF I)] (.tup 2 (fl [bsC (if rightRec 6 fsIss I=true then recB 6 fsIss I else []),.err (if rightRec 6 fsIss I=true then 0 else 4)])):=by rw [hI];exact bI
 have aM:CEnt (.agg 4 (markF (markV gn sr at_ na))) (.agg 4 (markF M)):=by rw [hM];exact cZ
 have aT:CEnt (.agg 3 (tickF (tickV nd sc ex))) (.agg 3 (tickF T)):=by rw [hT];exact cZ
 have aI:CEnt (.agg 2 (issF (issV bd tk))) (.agg 2 (issF I)):=by rw [hI];exact cZ
 have nT:T.length=3:=by rw [hT];rfl
 have nI:I.length=2:=by rw [hI];rfl
 rw [← hM] at tM oM fM lM ⊢
 rw [← hT] at tT oT fT lT ⊢
 rw [← hI] at tI oI fI lI ⊢
 refine ac_of 131 Tryz.func7 rfl rfl rfl (fun al w0 F0 St0=>?_)
 refine jcr ?_
 refine jqe (jebx 4 fun p1=>?_)
 refine jqe (jebx 3 fun p2=>?_)
 refine jqe (jebx 2 fun p3=>?_)
 refine jU 6751 ?_
 refine jqe (jecP alive19_ac ?_)
 refine jU 530 ?_;refine jcc (fun h89=>?_) fun h89=>?_
 ·exfalso;exact absurd h89 (by decide)
 refine jU 509067810 ?_;refine jq (rd_lenS rfl rfl Tryz.underlying9) ?_;refine jU 12 ?_;refine jqsp 25 (fun g92=>?_) fun g92=>?_
 ·refine jU 5169000580004444180004444180004444 ?_
  refine jR (jtr (jrt (hv:=cZ)))
 refine jU 15002350100 ?_;refine jqsp 31 (fun g92_2=>?_) fun g92_2=>?_
 ·refine jU 5169000580004444180004444 ?_
  refine jR (jtr (jrt (hv:=cZ)))
 refine jU 1500235090 ?_;refine jqsp 37 (fun g92_3=>?_) fun g92_3=>?_
 ·refine jU 5169000580004444 ?_
  refine jR (jtr (jrt (hv:=cZ)))
 refine jU 55002350100 ?_;refine jcc (fun h92=>?_) fun h92=>?_
 ·refine jU 516 ?_
  refine jR (jtr (jrt (hv:=cZ)))
 refine jU 6810 ?_;refine jqo (jrdoA 4) ?_
 refine jqe (jecP (bM') ?_ (ho:=rfl) (he:=(.cons (se rfl (CEnt.agg rfl (fun j hj=>by rcases j with _|_|_|_|j <;> exact cZ))) .nil)))
 refine jU 65119009001 ?_;refine jqo (jrdoA 3) ?_
 refine jqe (jecP (bT') ?_ (ho:=rfl) (he:=(.cons (se rfl (CEnt.agg rfl (fun j hj=>by rcases j with _|_|_|j <;> exact cZ))) .nil)))
 refine jU 65119009001 ?_;refine jqo (jrdoA 2) ?_
 refine jqe (jecP (bI') ?_ (ho:=rfl) (he:=(.cons (se rfl (CEnt.agg rfl (fun j hj=>by rcases j with _|_|j <;> exact cZ))) .nil)))
 refine jU 775119009001 ?_;refine jcd (.rd 1 (.rd 3 (.rd 4 (.one 0 (.one 2 (.one 5 (.rd 6 (.rd 7 (.rd 9 (.rd 11 (.rd 12 (.one 8 (.one 10 (.one 13 (.rd 14 (.rd 15 (.rd 16 (.rd 18 (.rd 20 (.rd 21 (.one 17 (.one 19 (.one 22 (.rd 23 (.rd 24 .done))))))))))))))))))))))))) ?_;refine jyo (jrdoA 4) ?_;refine jU 7070 ?_
 refine jye (jecP rmark19_ac ?_)
 refine jye (jecP oM ?_ (ho:=rfl) (he:=(.cons (se rfl (CEnt.agg rfl (fun j hj=>by rcases j with _|_|_|_|j <;> exact cZ))) .nil)))
 refine jye (jecP tM ?_)
 refine jU 70100000 ?_;refine jysp 65 (fun g98=>?_) fun g98=>?_
 ·exfalso;exact absurd g98 (by decide)
 refine jyo (jrdoA 3) ?_;refine jU 7070 ?_
 refine jye (jecP rtick19_ac ?_)
 refine jye (jecP oT ?_ (ho:=rfl) (he:=(.cons (se rfl (CEnt.agg rfl (fun j hj=>by rcases j with _|_|_|j <;> exact cZ))) .nil)))
 refine jye (jecP tT ?_)
 refine jU 70300000100000 ?_;refine jysp 74 (fun g98_2=>?_) fun g98_2=>?_
 ·exfalso;exact absurd g98_2 (by decide)
 refine jyo (jrdoA 2) ?_;refine jU 7070 ?_
 refine jye (jecP riss19_ac ?_)
 refine jye (jecP oI ?_ (ho:=rfl) (he:=(.cons (se rfl (CEnt.agg rfl (fun j hj=>by rcases j with _|_|j <;> exact cZ))) .nil)))
 refine jye (jecP tI ?_)
 refine jU 880300000100000 ?_;refine jcc (fun h98=>?_) fun h98=>?_
 ·exfalso;exact absurd h98 (by decide)
 refine jU 810 ?_;refine code_join (α:=Unit) [6,13,14,83,84,85,86,87,88,89,90,91,92,93,94,95,96] (fun _=>[]) (fun _=>[(p1,.blk 4 (markF M)),(p2,.blk 3 (tickF T)),(p3,.blk 2 (issF I))]) (fun _=>True) (fun _=>rfl) ?_ ?_
 ·refine jU 550000016 ?_;refine jcc (fun h101=>?_) fun h101=>?_
  rotate_left
  ·refine jU 810 ?_
   refine jjend (()) ?_ (h5:=?_) (h7:=?_)
   ·trivial
   ·exact .nil
   ·exact .blk rfl (fun j hj=>by rcases j with _|_|_|_|j <;> exact cZ) (.blk rfl (fun j hj=>by rcases j with _|_|_|j <;> exact cZ) (.blk rfl (fun j hj=>by rcases j with _|_|j <;> exact cZ) .nil))
  have hr:rightRec 4 fsMark M=true:=by
   cases h:rightRec 4 fsMark M with
   | true=>rfl
   | false=>exfalso;simp_all
  try rw [if_pos hr,if_pos hr]
  refine jU 16 ?_
  refine jqe (jecP ((by have h:=readMark_ac (gs:=gs) (recB 4 fsMark M) (by have:=lM hr;omega);rw [fM hr] at h;exact h)) ?_)
  refine jU 9009001 ?_
  refine jqe (jeal (n:=4) zr67 rfl fun p4=>?_)
  refine jqm (jmst 4 ?_)
  refine jU 51 ?_
  have hr:rightRec 4 fsMark M=true:=by
   cases h:rightRec 4 fsMark M with
   | true=>rfl
   | false=>exfalso;simp_all
  try rw [if_pos hr,if_pos hr]
  refine jU 150000016 ?_;refine jqsp 92 (fun g102=>?_) fun g102=>?_
  ·refine jU 516900058000444 ?_
   refine jR (jtr (jrt (hv:=?_)))
   exfalso
   (simp_all;done)
  refine jqo (jrdoA 4) ?_;refine jqo (jrdoA 4) ?_;refine jq (rd_neAgg rfl rfl rfl Tryz.underlying67 (by kernel_rfl) (by kernel_rfl) (.int Tryz.underlying3 (by decide) rfl rfl (.int Tryz.underlying3 (by decide) rfl rfl (.int Tryz.underlying3 (by decide) rfl rfl (.int Tryz.underlying3 (by decide) rfl rfl .nil)))) rfl) ?_;refine jU 5500 ?_;refine jcc (fun h102=>?_) fun h102=>?_
  rotate_left
  ·refine jU 810 ?_
   refine jjend (()) ?_ (h5:=?_) (h7:=?_)
   ·trivial
   ·exact .nil
   ·exact .blk rfl (fun j hj=>by rcases j with _|_|_|_|j <;> exact cZ) (.blk rfl (fun j hj=>by rcases j with _|_|_|j <;> exact cZ) (.blk rfl (fun j hj=>by rcases j with _|_|j <;> exact cZ) .nil))
  refine jU 516 ?_
  refine jR (jtr (jrt (hv:=?_)))
  exfalso
  (simp_all;done)
 ·rintro u _
  refine code_join (α:=Unit) [6,15,16,97,98,99,100,101,102,103,104,105,106,107,108,109,110,111,112,113] (fun _=>[]) (fun _=>[(p1,.blk 4 (markF M)),(p2,.blk 3 (tickF T)),(p3,.blk 2 (issF I))]) (fun _=>True) (fun _=>rfl) ?_ ?_
  ·refine jU 550000016 ?_;refine jcc (fun h106=>?_) fun h106=>?_
   rotate_left
   ·refine jU 810 ?_
    refine jjend (()) ?_ (h5:=?_) (h7:=?_)
    ·trivial
    ·exact .nil
    ·exact HEnt.refl _
   have hr:rightRec 7 fsTick T=true:=by
    cases h:rightRec 7 fsTick T with
    | true=>rfl
    | false=>exfalso;simp_all
   try rw [if_pos hr,if_pos hr]
   refine jU 16 ?_
   refine jqe (jecP ((by have h:=readTick_ac (gs:=gs) (recB 7 fsTick T) (by have:=lT hr;omega);rw [fT hr] at h;exact h)) ?_)
   refine jU 9009001 ?_
   refine jqe (jeal (n:=3) zr69 rfl fun p4=>?_)
   refine jqm (jmst 3 ?_)
   refine jU 751 ?_
   have hr:rightRec 7 fsTick T=true:=by
    cases h:rightRec 7 fsTick T with
    | true=>rfl
    | false=>exfalso;simp_all
   try rw [if_pos hr,if_pos hr]
   refine jcd (.rd 0 (.rd 1 (.rd 2 (.rd 3 (.rd 5 (.one 4 (.one 6 (.one 7 (.rd 8 (.rd 9 .done)))))))))) ?_;refine jU 70 ?_;refine jyq jre ?_;refine jU 70 ?_;refine jysp 106 (fun g107=>?_) fun g107=>?_
   ·refine jU 600600 ?_;refine jys1 ?_;refine jys1 ?_;refine jys1 ?_;refine jU 51690008803000000600 ?_
    refine jR (jtr (jrt (hv:=?_)))
    exfalso
    (simp_all;done)
   refine jyo (jrdoA 3) ?_;refine jyo (jrdoA 3) ?_
   refine jye (jecP oT ?_ (ho:=rfl) (he:=(.cons (se rfl (by exact CEnt.agg rfl (fun j hj=>by rcases j with _|_|_|j <;> first|exact cZ|omega))) .nil)))
   refine jye (jecP oT ?_ (ho:=rfl) (he:=(.cons (se rfl (by exact CEnt.agg rfl (fun j hj=>by rcases j with _|_|_|j <;> exact cZ))) .nil)))
   refine jye (jecP (rsame19_ac T (by omega)) ?_)
   refine jU 880300000100000 ?_;refine jcc (fun h107=>?_) fun h107=>?_
   ·exfalso;exact absurd h107 (by decide)
   refine jU 810 ?_
   refine jjend (()) ?_ (h5:=?_) (h7:=?_)
   ·trivial
   ·exact .nil
   ·exact HEnt.refl _
  ·rintro u _
   refine jU 5500000167 ?_;refine jcc (fun h111=>?_) fun h111=>?_
   rotate_left
   ·refine jU 516810 ?_
    refine jR (jrt (hv:=cZ))
   have hr:rightRec 6 fsIss I=true:=by
    cases h:rightRec 6 fsIss I with
    | true=>rfl
    | false=>exfalso;simp_all
   try rw [if_pos hr,if_pos hr]
   refine jU 16 ?_
   refine jqe (jecP ((by have h:=readIss_ac (gs:=gs) (recB 6 fsIss I) (by have:=lI hr;omega);rw [fI hr] at h;exact h)) ?_)
   refine jU 9009001 ?_
   refine jqe (jeal (n:=2) zr71 rfl fun p4=>?_)
   refine jqm (jmst 2 ?_)
   refine jU 751 ?_
   have hr:rightRec 6 fsIss I=true:=by
    cases h:rightRec 6 fsIss I with
    | true=>rfl
    | false=>exfalso;simp_all
   try rw [if_pos hr,if_pos hr]
   refine jcd (.rd 0 (.rd 1 (.rd 2 (.rd 3 (.rd 5 (.one 4 (.one 6 (.one 7 (.rd 8 (.rd 9 .done)))))))))) ?_;refine jU 70 ?_;refine jyq jre ?_;refine jU 70 ?_;refine jysp 123 (fun g112=>?_) fun g112=>?_
   ·refine jU 600600 ?_;refine jys1 ?_;refine jys1 ?_;refine jys1 ?_;refine jU 51690008803000000600 ?_
    refine jR (jtr (jrt (hv:=?_)))
    exfalso
    (simp_all;done)
   refine jyo (jrdoA 2) ?_;refine jyo (jrdoA 2) ?_
   refine jye (jecP oI ?_ (ho:=rfl) (he:=(.cons (se rfl (by exact CEnt.agg rfl (fun j hj=>by rcases j with _|_|j <;> first|exact cZ|omega))) .nil)))
   refine jye (jecP oI ?_ (ho:=rfl) (he:=(.cons (se rfl (by exact CEnt.agg rfl (fun j hj=>by rcases j with _|_|j <;> exact cZ))) .nil)))
   refine jye (jecP (rsame19_ac I (by omega)) ?_)
   refine jU 880300000100000 ?_;refine jcc (fun h112=>?_) fun h112=>?_
   ·exfalso;exact absurd h112 (by decide)
   refine jU 516810 ?_
   refine jR (jrt (hv:=cZ))
end
section
open Go.RowKit Go.ChangeShapes
def Opens (P:Program) (t:TypeId) (k:Nat) (D:Type) (φ:D→Prop) (E:D→Nat→CV):Prop :=
 ∀ (H:Type) (enc:TypeId×Value→H) (W:World) (fuel:Nat) (cs:List Value) (y:DataW H×List MemPlace),DataW.trod enc P W 0 (fun _=>true) true fuel t cs=some y →
  cs.length=k∧∃ x:D,φ x∧∀ al j,j<k→RepC al (fun b=>b<W.heap.size) W (E x j) (cs.getD j undef)
section
variable {P:Program} {t:TypeId}
theorem one_cell {al:List Addr} {W:World} {St:Nat→Prop} {c:Nat→CV} {v:Value} (h:RepC al St W (c 0) v):∀ j,j<1→RepC al St W (c j) ([v].getD j undef):=fun j hj=>by
 obtain rfl:j=0:=by omega
 exact h
theorem opens_i64 (hu:P.underlying t=some (.int .i64)):Opens P t 1 Int (fun z=>-9223372036854775808≤z∧z≤9223372036854775807) (fun z _=>.c (.int .i64 z)):=fun H enc W fuel cs y h=>by
 obtain ⟨n,rfl,_,hw⟩:=DataW.trod_int hu h
 exact ⟨rfl,n,bounds_i64 hw,fun al=>one_cell rfl⟩
theorem opens_u8 (hu:P.underlying t=some (.int .u8)):Opens P t 1 UInt8 (fun _=>True) (fun z _=>.c (.int .u8 (z.toNat:Nat))):=fun H enc W fuel cs y h=>by
 obtain ⟨n,rfl,_,hw⟩:=DataW.trod_int hu h
 have hb:=bounds_u8 hw
 refine ⟨rfl,UInt8.ofNat n.toNat,trivial,fun al=>one_cell ?_⟩
 show Value.int .u8 n=.int .u8 ((UInt8.ofNat n.toNat).toNat:Nat)
 rw [UInt8.toNat_ofNat']
 congr 1
 omega
theorem opens_slice {e:TypeId} {k:Nat} {D:Type} {φ:D→Prop} {E:D→Nat→CV} (d0:D) (ho:Opens P e k D φ E) (hu:P.underlying t=some (.slice e)) (hk:P.cellsOf e=k) (hk0:0<k) :
  Opens P t 1 (List D) (fun l=>l.length≤maxLen∧∀ x ∈ l,φ x) (fun l _=>.rs k l.length fun i j=>E (l.getD i d0) j):=fun H enc W fuel cs y h=>by
 rcases DataW.trod_slice hu h with ⟨rfl,_⟩|⟨a,len,cap,elems,rest,n,_,rfl,_,_,hle,hm,hl,hel,_⟩
 ·exact ⟨rfl,[],⟨by simp,by simp⟩,fun al=>one_cell ⟨none,0,rfl,Nat.le_refl _,by decide,fun _=>rfl,fun _ h=>by cases h⟩⟩
 ·refine ⟨rfl,?_⟩
  subst hk
  have key:∀ i,∃ x:D,i<len→φ x∧∀ al j,j<P.cellsOf e→∃ v,W.cell? (a.add (i * P.cellsOf e+j))=some v∧RepC al (fun b=>b<W.heap.size) W (E x j) v:=fun i=>by
   by_cases hi:i<len
   ·have h1:=hel i hi
    rw [List.getElem?_eq_getElem (by omega)] at h1
    obtain ⟨cs,h2,h3⟩:=Option.bind_eq_some_iff.1 h1
    obtain ⟨_,h4,h5⟩:=World.cells?_some h2
    obtain ⟨_,x,hx,hr⟩:=ho H enc W n cs _ h3
    refine ⟨x,fun _=>⟨hx,fun al j hj=>⟨cs.getD j undef,?_,hr al j hj⟩⟩⟩
    have:=h5 j hj
    rw [Addr.add_add] at this
    rw [this]
    simp [h4,hj]
   ·exact ⟨d0,fun h=>absurd h hi⟩
  obtain ⟨F,hF⟩:∃ F:Nat→D,∀ i,i<len→φ (F i)∧∀ al j,j<P.cellsOf e→∃ v,W.cell? (a.add (i * P.cellsOf e+j))=some v∧RepC al (fun b=>b<W.heap.size) W (E (F i) j) v :=
   ⟨fun i=>(key i).choose,fun i hi=>(key i).choose_spec hi⟩
  have hm':cap≤9223372036854775807:=by unfold maxLen at hm;omega
  refine ⟨(List.range len).map F,⟨by simp;omega,by simp only [List.mem_map,List.mem_range];rintro x ⟨i,hi,rfl⟩;exact (hF i hi).1⟩,fun al=>one_cell ?_⟩
  refine ⟨some a,cap,by simp,by simpa using hle,hm',by simp,fun b hb hn=>?_⟩
  cases hb
  simp at hn
  obtain ⟨v0,hv0,_⟩:=(hF 0 hn).2 al 0 hk0
  have hsp:a.spot=none:=by
   have:=World.cell?_spot hv0
   obtain ⟨b,o,sp⟩:=a
   simpa [Addr.add] using this
  refine ⟨hsp,?_,fun i j hi hj=>?_⟩
  ·have:=World.block_lt_of_cell? W _ hv0
   obtain ⟨b,o,sp⟩:=a
   simpa [Addr.add] using this
  ·simp at hi
   obtain ⟨v,hv,hr⟩:=(hF i hi).2 al j hj
   refine ⟨v,?_,by simpa [List.getD,hi] using hr⟩
   obtain ⟨b,o,sp⟩:=a
   simp only at hsp
   subst hsp
   rwa [Addr.add_lit] at hv
def OpensF (P:Program) (fs:List Field) (D:Type) (φ:D→Prop) (E:D→Nat→CV) (C:Nat→Bool):Prop :=
 ∀ (H:Type) (enc:TypeId×Value→H) (W:World) (cs:List Value),(∀ f ∈ fs,∃ n y,DataW.trod enc P W 0 (fun _=>true) true n f.type ((cs.drop f.offset).take (P.cellsOf f.type))=some y) →
  ∃ x:D,φ x∧∀ al j,C j=true→RepC al (fun b=>b<W.heap.size) W (E x j) (cs.getD j undef)
theorem opensF_nil:OpensF P [] Unit (fun _=>True) (fun _ _=>.top) (fun _=>false):=fun H enc W cs _=>⟨(),trivial,fun al j h=>by cases h⟩
theorem opensF_cons {f:Field} {fs:List Field} {k:Nat} {D1 D2:Type} {φ1:D1→Prop} {φ2:D2→Prop} {E1:D1→Nat→CV} {E2:D2→Nat→CV} {C2:Nat→Bool} (h1:Opens P f.type k D1 φ1 E1) (h2:OpensF P fs D2 φ2 E2 C2) :
  OpensF P (f::fs) (D1×D2) (fun x=>φ1 x.1∧φ2 x.2) (fun x j=>match Nat.ble f.offset j && Nat.blt j (f.offset+k) with|true=>E1 x.1 (j-f.offset)|false=>E2 x.2 j) (fun j=>(Nat.ble f.offset j && Nat.blt j (f.offset+k)) || C2 j):=fun H enc W cs h=>by
 obtain ⟨n,y,hy⟩:=h f (List.mem_cons_self ..)
 obtain ⟨hl,x1,p1,r1⟩:=h1 H enc W n _ y hy
 obtain ⟨x2,p2,r2⟩:=h2 H enc W cs fun g hg=>h g (List.mem_cons_of_mem _ hg)
 refine ⟨(x1,x2),⟨p1,p2⟩,fun al j hj=>?_⟩
 cases hb:Nat.ble f.offset j && Nat.blt j (f.offset+k) with
 | true =>
  have hb0:=hb
  simp only [Bool.and_eq_true] at hb
  have b1:f.offset≤j:=Nat.le_of_ble_eq_true hb.1
  have b2:j<f.offset+k:=Nat.le_of_ble_eq_true hb.2
  have:=r1 al (j-f.offset) (by omega)
  simp only [List.length_take,List.length_drop] at hl
  rw [List.getD_eq_getElem?_getD,List.getElem?_take,if_pos (by omega),List.getElem?_drop,show f.offset+(j-f.offset)=j by omega,← List.getD_eq_getElem?_getD] at this
  simp only [hb0]
  exact this
 | false =>
  simp only [hb,Bool.false_or] at hj
  simp only [hb]
  exact r2 al j hj
theorem opens_struct {fs:Array Field} {n:Nat} {D:Type} {φ:D→Prop} {E:D→Nat→CV} {C:Nat→Bool} (hu:P.underlying t=some (.struct fs)) (hn:P.cellsOf t=n) (ho:OpensF P fs.toList D φ E C) (hC:(List.range n).all C=true):Opens P t n D φ E:=fun H enc W fuel cs y h=>by
 obtain ⟨xs,m,_,_,hl,hlen,hf⟩:=DataW.trod_struct hu h
 obtain ⟨x,hx,hr⟩:=ho H enc W cs fun f hf'=>by
  obtain ⟨i,hi⟩:=List.mem_iff_getElem?.1 hf'
  rw [Array.getElem?_toList] at hi
  have:=hf i f hi
  have hlt:i<xs.length:=by rw [hlen];exact (Array.getElem?_eq_some_iff.1 hi).1
  rw [List.getElem?_eq_getElem hlt] at this
  exact ⟨m,_,this⟩
 exact ⟨hl.trans hn,x,hx,fun al j hj=>hr al j (List.all_eq_true.1 hC j (List.mem_range.2 hj))⟩
theorem arg_agg {n:Nat} {D:Type} {φ:D→Prop} {E:D→Nat→CV} (ho:Opens P t n D φ E) {H:Type} {enc:TypeId×Value→H} {W:World} {cs:Array Value} {d:DataW H} {p:List MemPlace} (h:DataW.Trod enc P W 0 (fun _=>true) true t (.agg cs) d p) :
  ∃ x:D,φ x∧∀ al,RepC al (fun b=>b<W.heap.size) W (.agg n (E x)) (.agg cs):=by
 obtain ⟨fuel,hf⟩:=h
 obtain ⟨hl,x,hx,hr⟩:=ho H enc W fuel _ _ hf
 refine ⟨x,hx,fun al=>⟨cs,rfl,by simpa [Value.cells] using hl,fun i hi=>?_⟩⟩
 have:=hr al i hi
 simpa [Value.cells] using this
end
end
section
open Go.RowKit Go.ChangeShapes
theorem opens_strL {P:Program} {t:TypeId} (hu:P.underlying t=some .string):Opens P t 1 (List UInt8) (fun s=>s.length≤maxLen) (fun z _=>strC z):=fun H enc W fuel cs y h=>by
 obtain ⟨n,rfl,_,hs⟩:=DataW.trod_string hu h
 obtain ⟨l,rfl⟩:=ba_list n
 exact ⟨rfl,l,hs,fun al=>one_cell rfl⟩
end
end Am
end Go.Proofs.YthlpfjnkieaeeaaGreatDoor
