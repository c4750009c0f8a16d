/- What the law leans on, part 12: W19b, W19c, W19d, W19e, W08s9 -/
import Derived.Test.YthlpfjnkieaeeaaGreatDoorM11ObjectsOthers

set_option maxRecDepth 100000
namespace Go.Proofs.YthlpfjnkieaeeaaGreatDoor
set_option linter.unusedVariables false
namespace Am
open Go.RowKit
section
open Go.RowKit Cal
def caseF (vs:List V4):Nat→CV:=fl [.c (.int .i64 (vs.getD 0 V4.z).who.1),strC (vs.getD 0 V4.z).who.2.1,strC (vs.getD 0 V4.z).who.2.2,bsC (vs.getD 1 V4.z).b,.c (.int .i64 (vs.getD 2 V4.z).n),.c (.int .i64 (vs.getD 3 V4.z).n),bsC (vs.getD 4 V4.z).b,bsC (vs.getD 5 V4.z).b]
def authF (vs:List V4):Nat→CV:=fl [.c (.int .i64 (vs.getD 0 V4.z).n),bsC (vs.getD 1 V4.z).b,.c (.int .i64 (vs.getD 2 V4.z).n),.c (.int .i64 (vs.getD 3 V4.z).n),.c (.int .i64 (vs.getD 4 V4.z).n),.c (.int .i64 (vs.getD 5 V4.z).n),.c (.int .i64 (vs.getD 6 V4.z).n)]
def markF (vs:List V4):Nat→CV:=fl [.c (.int .i64 (vs.getD 0 V4.z).n),.c (.int .i64 (vs.getD 1 V4.z).n),.c (.int .i64 (vs.getD 2 V4.z).n),.c (.int .i64 (vs.getD 3 V4.z).n)]
def tickF (vs:List V4):Nat→CV:=fl [strC (vs.getD 0 V4.z).t,bsC (vs.getD 1 V4.z).b,.c (.int .i64 (vs.getD 2 V4.z).n)]
def issF (vs:List V4):Nat→CV:=fl [bsC (vs.getD 0 V4.z).b,bsC (vs.getD 1 V4.z).b]
theorem within_ac {gs:List Nat} (n x y:Int):ACp gs Tryz.prog 202 [.c (.int .i64 n),.c (.int .i64 x),.c (.int .i64 y)] (.c (.bool (decide (x≤n) && decide (n≤y)))):=by
 refine ac_of 15 Tryz.func202 rfl rfl rfl (fun al w0 F0 St0=>?_)
 refine jU 12116516 ?_;refine jqsp 10 (fun g107=>?_) fun g107=>?_
 ·refine jU 518000211 ?_
  refine jR (jrt (hv:=?_))
  refine cB ?_
  (simp_all;done)
 refine jU 51500444 ?_
 refine jR (jrt (hv:=?_))
 refine cB ?_
 (rw [Bool.eq_iff_iff];simp;omega)
theorem moment_ac {gs:List Nat} (n:Int):ACp gs Tryz.prog 203 [.c (.int .i64 n)] (.c (.bool (decide (0≤n) && decide (n≤253402300799)))):=by
 refine ac_of 5 Tryz.func203 rfl rfl rfl (fun al w0 F0 St0=>?_)
 refine jU 16516 ?_
 refine jqe (jecP (within_ac n 0 253402300799) ?_)
 refine jU 51 ?_
 refine jR jrt
set_option maxHeartbeats 2000000 in
theorem rightCase_ac {gs:List Nat} (v0 v1 v2 v3 v4 v5:V4):ACp gs Tryz.prog 141 [.agg 8 (caseF [v0,v1,v2,v3,v4,v5])] (.c (.bool (rightRec 2 fsCase [v0,v1,v2,v3,v4,v5]))):=by
 have hR:rightRec 2 fsCase [v0,v1,v2,v3,v4,v5]=(rightS v0.who && ((decide ((1:Int)≤(v1.b.length:Nat)) && decide (((v1.b.length:Nat):Int)≤4096)) && ((decide (0≤v2.n) && decide (v2.n≤253402300799)) && ((decide (0≤v3.n) && decide (v3.n≤2)) && ((decide ((0:Int)≤(v4.b.length:Nat)) && decide (((v4.b.length:Nat):Int)≤4096)) && ((decide ((0:Int)≤(v5.b.length:Nat)) && decide (((v5.b.length:Nat):Int)≤4096)) && true))))) && ((decide (v5.b.length=0) || decide (0<v4.b.length)) && (decide (v4.b.length=0) || decide (v3.n=1)))):=rfl
 refine ac_of 61 Tryz.func141 rfl rfl rfl (fun al w0 F0 St0=>?_)
 refine jcr ?_
 refine jqe (jebx 8 fun p1=>?_)
 refine jU 3505000000651 ?_
 refine jqe (jecP (within_ac _ _ _) ?_)
 refine jU 1 ?_;refine jqsp 9 (fun g114=>?_) fun g114=>?_
 rotate_left
 ·refine jU 651500444415004444 ?_;refine jq (jrfa 7 1 false) ?_;refine jU 12350 ?_;refine jqsp 25 (fun g115=>?_) fun g115=>?_
  ·refine jU 1235020000000180004444 ?_;refine jqsp 36 (fun g115_2=>?_) fun g115_2=>?_
   ·refine jU 5150044415004441500444150041165180008000444 ?_
    refine jR (jrt (hv:=?_))
    rw [hR]
    refine cB ?_
    (rw [Bool.eq_iff_iff];simp_all;omega)
   refine jU 5150044415004441500444150041165180005002506000000 ?_
   refine jR (jrt (hv:=?_))
   rw [hR]
   refine cB ?_
   (rw [Bool.eq_iff_iff];simp_all;omega)
  refine jU 1500235020000000 ?_;refine jqsp 31 (fun g115_2=>?_) fun g115_2=>?_
  rotate_left
  ·refine jU 51500444150044415004441500411651500444444444 ?_
   refine jR (jrt (hv:=?_))
   rw [hR]
   refine cB ?_
   (rw [Bool.eq_iff_iff];simp_all;done)
  refine jU 1235020000000 ?_;refine jqsp 36 (fun g115_3=>?_) fun g115_3=>?_
  ·refine jU 5150044415004441500444150041165180008000444 ?_
   refine jR (jrt (hv:=?_))
   rw [hR]
   refine cB ?_
   (rw [Bool.eq_iff_iff];simp;omega)
  refine jU 5150044415004441500444150041165180005002506000000 ?_
  refine jR (jrt (hv:=?_))
  rw [hR]
  refine cB ?_
  (rw [Bool.eq_iff_iff];simp_all;omega)
 refine jU 18000235020000000 ?_;refine jqsp 15 (fun g114_2=>?_) fun g114_2=>?_
 rotate_left
 ·refine jU 6515004444 ?_;refine jq (jrfa 7 1 false) ?_;refine jU 12350 ?_;refine jqsp 25 (fun g115=>?_) fun g115=>?_
  ·refine jU 1235020000000180004444 ?_;refine jqsp 36 (fun g115_2=>?_) fun g115_2=>?_
   ·refine jU 5150044415004441500444150041165180008000444 ?_
    refine jR (jrt (hv:=?_))
    rw [hR]
    refine cB ?_
    (rw [Bool.eq_iff_iff];simp;omega)
   refine jU 5150044415004441500444150041165180005002506000000 ?_
   refine jR (jrt (hv:=?_))
   rw [hR]
   refine cB ?_
   (rw [Bool.eq_iff_iff];simp_all;omega)
  refine jU 1500235020000000 ?_;refine jqsp 31 (fun g115_2=>?_) fun g115_2=>?_
  rotate_left
  ·refine jU 51500444150044415004441500411651500444444444 ?_
   refine jR (jrt (hv:=?_))
   rw [hR]
   refine cB ?_
   (rw [Bool.eq_iff_iff];simp;omega)
  refine jU 1235020000000 ?_;refine jqsp 36 (fun g115_3=>?_) fun g115_3=>?_
  ·refine jU 5150044415004441500444150041165180008000444 ?_
   refine jR (jrt (hv:=?_))
   rw [hR]
   refine cB ?_
   (rw [Bool.eq_iff_iff];simp;omega)
  refine jU 5150044415004441500444150041165180005002506000000 ?_
  refine jR (jrt (hv:=?_))
  rw [hR]
  refine cB ?_
  (rw [Bool.eq_iff_iff];simp_all;omega)
 refine jq (jrfa 7 1 false) ?_;refine jU 65180002350 ?_;refine jq (jrfa 7 1 false) ?_;refine jU 12350 ?_;refine jqsp 25 (fun g115=>?_) fun g115=>?_
 ·refine jU 1235020000000180004444 ?_;refine jqsp 36 (fun g115_2=>?_) fun g115_2=>?_
  ·refine jU 1165180008000444 ?_;refine jqsp 43 (fun g116=>?_) fun g116=>?_
   rotate_left
   ·refine jU 515004441500444150044415004 ?_
    refine jR (jrt (hv:=?_))
    rw [hR]
    refine cB ?_
    (rw [Bool.eq_iff_iff];simp;omega)
   refine jU 180001 ?_;refine jq (jrfa 0 3 true) ?_;refine jqo (jrdoA 3) ?_
   refine jqe (jecP (nright_ac v0.who) ?_)
   refine jU 18000 ?_;refine jqsp 51 (fun g116_2=>?_) fun g116_2=>?_
   rotate_left
   ·refine jU 515004441500444 ?_
    refine jR (jrt (hv:=?_))
    rw [hR]
    refine cB ?_
    (rw [Bool.eq_iff_iff];simp_all;done)
   refine jU 507000000 ?_
   refine jqe (jecP (moment_ac _) ?_)
   refine jU 18000 ?_;refine jqsp 56 (fun g116_3=>?_) fun g116_3=>?_
   ·refine jU 506000000 ?_
    refine jqe (jecP (within_ac _ _ _) ?_)
    refine jU 518000 ?_
    refine jR (jrt (hv:=?_))
    rw [hR]
    refine cB ?_
    (rw [Bool.eq_iff_iff];simp_all;done)
   refine jU 51500444 ?_
   refine jR (jrt (hv:=?_))
   rw [hR]
   refine cB ?_
   (rw [Bool.eq_iff_iff];simp_all;omega)
  refine jU 1165180005002506000000 ?_;refine jqsp 43 (fun g116=>?_) fun g116=>?_
  rotate_left
  ·refine jU 515004441500444150044415004 ?_
   refine jR (jrt (hv:=?_))
   rw [hR]
   refine cB ?_
   (rw [Bool.eq_iff_iff];simp;omega)
  refine jU 180001 ?_;refine jqsp 46 (fun g116_2=>?_) fun g116_2=>?_
  rotate_left
  ·refine jU 5150044415004441500444 ?_
   refine jR (jrt (hv:=?_))
   rw [hR]
   refine cB ?_
   (rw [Bool.eq_iff_iff];simp_all;done)
  refine jq (jrfa 0 3 true) ?_;refine jqo (jrdoA 3) ?_
  refine jqe (jecP (nright_ac v0.who) ?_)
  refine jU 18000 ?_;refine jqsp 51 (fun g116_3=>?_) fun g116_3=>?_
  rotate_left
  ·refine jU 515004441500444 ?_
   refine jR (jrt (hv:=?_))
   rw [hR]
   refine cB ?_
   (rw [Bool.eq_iff_iff];simp_all;done)
  refine jU 507000000 ?_
  refine jqe (jecP (moment_ac _) ?_)
  refine jU 18000 ?_;refine jqsp 56 (fun g116_4=>?_) fun g116_4=>?_
  ·refine jU 506000000 ?_
   refine jqe (jecP (within_ac _ _ _) ?_)
   refine jU 518000 ?_
   refine jR (jrt (hv:=?_))
   rw [hR]
   refine cB ?_
   (rw [Bool.eq_iff_iff];simp_all;done)
  refine jU 51500444 ?_
  refine jR (jrt (hv:=?_))
  rw [hR]
  refine cB ?_
  (rw [Bool.eq_iff_iff];simp_all;done)
 refine jU 1500235020000000 ?_;refine jqsp 31 (fun g115_2=>?_) fun g115_2=>?_
 rotate_left
 ·refine jU 11651500444444444 ?_;refine jqsp 43 (fun g116=>?_) fun g116=>?_
  ·refine jU 5150044415004441500444180001 ?_
   refine jR (jrt (hv:=?_))
   rw [hR]
   refine cB ?_
   (rw [Bool.eq_iff_iff];simp_all;done)
  refine jU 515004441500444150044415004 ?_
  refine jR (jrt (hv:=?_))
  rw [hR]
  refine cB ?_
  (rw [Bool.eq_iff_iff];simp_all;done)
 refine jU 1235020000000 ?_;refine jqsp 36 (fun g115_3=>?_) fun g115_3=>?_
 ·refine jU 1165180008000444 ?_;refine jqsp 43 (fun g116=>?_) fun g116=>?_
  rotate_left
  ·refine jU 515004441500444150044415004 ?_
   refine jR (jrt (hv:=?_))
   rw [hR]
   refine cB ?_
   (rw [Bool.eq_iff_iff];simp;omega)
  refine jU 180001 ?_;refine jq (jrfa 0 3 true) ?_;refine jqo (jrdoA 3) ?_
  refine jqe (jecP (nright_ac v0.who) ?_)
  refine jU 18000 ?_;refine jqsp 51 (fun g116_2=>?_) fun g116_2=>?_
  rotate_left
  ·refine jU 515004441500444 ?_
   refine jR (jrt (hv:=?_))
   rw [hR]
   refine cB ?_
   (rw [Bool.eq_iff_iff];simp;omega)
  refine jU 507000000 ?_
  refine jqe (jecP (moment_ac _) ?_)
  refine jU 18000 ?_;refine jqsp 56 (fun g116_3=>?_) fun g116_3=>?_
  ·refine jU 506000000 ?_
   refine jqe (jecP (within_ac _ _ _) ?_)
   refine jU 518000 ?_
   refine jR (jrt (hv:=?_))
   rw [hR]
   refine cB ?_
   (rw [Bool.eq_iff_iff];simp;omega)
  refine jU 51500444 ?_
  refine jR (jrt (hv:=?_))
  rw [hR]
  refine cB ?_
  (rw [Bool.eq_iff_iff];simp;omega)
 refine jU 1165180005002506000000 ?_;refine jqsp 43 (fun g116=>?_) fun g116=>?_
 rotate_left
 ·refine jU 515004441500444150044415004 ?_
  refine jR (jrt (hv:=?_))
  rw [hR]
  refine cB ?_
  (rw [Bool.eq_iff_iff];simp_all;omega)
 refine jU 180001 ?_;refine jqsp 46 (fun g116_2=>?_) fun g116_2=>?_
 rotate_left
 ·refine jU 5150044415004441500444 ?_
  refine jR (jrt (hv:=?_))
  rw [hR]
  refine cB ?_
  (rw [Bool.eq_iff_iff];simp_all;done)
 refine jq (jrfa 0 3 true) ?_;refine jqo (jrdoA 3) ?_
 refine jqe (jecP (nright_ac v0.who) ?_)
 refine jU 18000 ?_;refine jqsp 51 (fun g116_3=>?_) fun g116_3=>?_
 rotate_left
 ·refine jU 515004441500444 ?_
  refine jR (jrt (hv:=?_))
  rw [hR]
  refine cB ?_
  (rw [Bool.eq_iff_iff];simp_all;done)
 refine jU 507000000 ?_
 refine jqe (jecP (moment_ac _) ?_)
 refine jU 18000 ?_;refine jqsp 56 (fun g116_4=>?_) fun g116_4=>?_
 ·refine jU 506000000 ?_
  refine jqe (jecP (within_ac _ _ _) ?_)
  refine jU 518000 ?_
  refine jR (jrt (hv:=?_))
  rw [hR]
  refine cB ?_
  (rw [Bool.eq_iff_iff];simp_all;done)
 refine jU 51500444 ?_
 refine jR (jrt (hv:=?_))
 rw [hR]
 refine cB ?_
 (rw [Bool.eq_iff_iff];simp_all;done)
set_option maxHeartbeats 2000000 in
theorem rightAuth_ac {gs:List Nat} (v0 v1 v2 v3 v4 v5 v6:V4):ACp gs Tryz.prog 147 [.agg 7 (authF [v0,v1,v2,v3,v4,v5,v6])] (.c (.bool (rightRec 3 fsAuth [v0,v1,v2,v3,v4,v5,v6]))):=by
 have hR:rightRec 3 fsAuth [v0,v1,v2,v3,v4,v5,v6]=((decide (1≤v0.n) && decide (v0.n≤1048576)) && ((decide ((16:Int)≤(v1.b.length:Nat)) && decide (((v1.b.length:Nat):Int)≤64)) && ((decide (1≤v2.n) && decide (v2.n≤4)) && ((decide (0≤v3.n) && decide (v3.n≤253402300799)) && ((decide (0≤v4.n) && decide (v4.n≤253402300799)) && ((decide (0≤v5.n) && decide (v5.n≤253402300799)) && ((decide (0≤v6.n) && decide (v6.n≤1099511627776)) && true)))))) && decide (v3.n≤v4.n)):=rfl
 refine ac_of 46 Tryz.func147 rfl rfl rfl (fun al w0 F0 St0=>?_)
 refine jcr ?_
 refine jqe (jebx 7 fun p1=>?_)
 refine jU 505000000651 ?_
 refine jqe (jecP (moment_ac _) ?_)
 refine jU 1 ?_;refine jqsp 7 (fun g121=>?_) fun g121=>?_
 rotate_left
 ·refine jU 515004441500444150044441500444116515004441500444441500444 ?_
  refine jR (jrt (hv:=?_))
  rw [hR]
  refine cB ?_
  (rw [Bool.eq_iff_iff];simp_all;omega)
 refine jU 507000000 ?_
 refine jqe (jecP (moment_ac _) ?_)
 refine jU 18000 ?_;refine jqsp 12 (fun g121_2=>?_) fun g121_2=>?_
 rotate_left
 ·refine jU 51500444150044415004444150044411651500444150044444 ?_
  refine jR (jrt (hv:=?_))
  rw [hR]
  refine cB ?_
  (rw [Bool.eq_iff_iff];simp_all;omega)
 refine jU 180002507000000505000000 ?_;refine jqsp 19 (fun g121_3=>?_) fun g121_3=>?_
 rotate_left
 ·refine jU 51500444150044415004444150044411651500444 ?_
  refine jR (jrt (hv:=?_))
  rw [hR]
  refine cB ?_
  (rw [Bool.eq_iff_iff];simp_all;done)
 refine jU 506000000 ?_
 refine jqe (jecP (moment_ac _) ?_)
 refine jU 116518000 ?_;refine jqsp 25 (fun g122=>?_) fun g122=>?_
 rotate_left
 ·refine jU 515004441500444150044441500444 ?_
  refine jR (jrt (hv:=?_))
  rw [hR]
  refine cB ?_
  (rw [Bool.eq_iff_iff];simp_all;omega)
 refine jU 5090 ?_
 refine jqe (jecP (within_ac _ _ _) ?_)
 refine jU 18000 ?_;refine jqsp 30 (fun g122_2=>?_) fun g122_2=>?_
 rotate_left
 ·refine jU 51500444150044415004444 ?_
  refine jR (jrt (hv:=?_))
  rw [hR]
  refine cB ?_
  (rw [Bool.eq_iff_iff];simp_all;omega)
 refine jU 350100 ?_
 refine jqe (jecP (within_ac _ _ _) ?_)
 refine jU 18000 ?_;refine jqsp 36 (fun g122_3=>?_) fun g122_3=>?_
 rotate_left
 ·refine jU 515004441500444 ?_
  refine jR (jrt (hv:=?_))
  rw [hR]
  refine cB ?_
  (rw [Bool.eq_iff_iff];simp_all;omega)
 refine jU 501000 ?_
 refine jqe (jecP (within_ac _ _ _) ?_)
 refine jU 18000 ?_;refine jqsp 41 (fun g122_4=>?_) fun g122_4=>?_
 ·refine jU 5020000000 ?_
  refine jqe (jecP (within_ac _ _ _) ?_)
  refine jU 518000 ?_
  refine jR (jrt (hv:=?_))
  rw [hR]
  refine cB ?_
  (rw [Bool.eq_iff_iff];simp_all;done)
 refine jU 51500444 ?_
 refine jR (jrt (hv:=?_))
 rw [hR]
 refine cB ?_
 (rw [Bool.eq_iff_iff];simp_all;omega)
set_option maxHeartbeats 2000000 in
theorem rightMark_ac {gs:List Nat} (v0 v1 v2 v3:V4):ACp gs Tryz.prog 159 [.agg 4 (markF [v0,v1,v2,v3])] (.c (.bool (rightRec 4 fsMark [v0,v1,v2,v3]))):=by
 have hR:rightRec 4 fsMark [v0,v1,v2,v3]=((decide (1≤v0.n) && decide (v0.n≤1048576)) && ((decide (1≤v1.n) && decide (v1.n≤1099511627776)) && ((decide (0≤v2.n) && decide (v2.n≤253402300799)) && ((decide (0≤v3.n) && decide (v3.n≤253402300799)) && true))) && true):=rfl
 refine ac_of 21 Tryz.func159 rfl rfl rfl (fun al w0 F0 St0=>?_)
 refine jcr ?_
 refine jqe (jebx 4 fun p1=>?_)
 refine jU 5090651 ?_
 refine jqe (jecP (within_ac _ _ _) ?_)
 refine jU 1 ?_;refine jqsp 6 (fun g127=>?_) fun g127=>?_
 rotate_left
 ·refine jU 5150044415004441500444 ?_
  refine jR (jrt (hv:=?_))
  rw [hR]
  refine cB ?_
  (rw [Bool.eq_iff_iff];simp_all;omega)
 refine jU 50100 ?_
 refine jqe (jecP (within_ac _ _ _) ?_)
 refine jU 18000 ?_;refine jqsp 11 (fun g127_2=>?_) fun g127_2=>?_
 rotate_left
 ·refine jU 515004441500444 ?_
  refine jR (jrt (hv:=?_))
  rw [hR]
  refine cB ?_
  (rw [Bool.eq_iff_iff];simp_all;omega)
 refine jU 501000 ?_
 refine jqe (jecP (moment_ac _) ?_)
 refine jU 18000 ?_;refine jqsp 16 (fun g127_3=>?_) fun g127_3=>?_
 ·refine jU 505000000 ?_
  refine jqe (jecP (moment_ac _) ?_)
  refine jU 518000 ?_
  refine jR (jrt (hv:=?_))
  rw [hR]
  refine cB ?_
  (rw [Bool.eq_iff_iff];simp_all;done)
 refine jU 51500444 ?_
 refine jR (jrt (hv:=?_))
 rw [hR]
 refine cB ?_
 (rw [Bool.eq_iff_iff];simp_all;omega)
set_option maxHeartbeats 2000000 in
theorem rightTick_ac {gs:List Nat} (v0 v1 v2:V4):ACp gs Tryz.prog 162 [.agg 3 (tickF [v0,v1,v2])] (.c (.bool (rightRec 7 fsTick [v0,v1,v2]))):=by
 have hR:rightRec 7 fsTick [v0,v1,v2]=(labM v0.t && ((decide ((32:Int)≤(v1.b.length:Nat)) && decide (((v1.b.length:Nat):Int)≤32)) && ((decide (0≤v2.n) && decide (v2.n≤253402300799)) && true)) && true):=rfl
 refine ac_of 17 Tryz.func162 rfl rfl rfl (fun al w0 F0 St0=>?_)
 refine jcr ?_
 refine jqe (jebx 3 fun p1=>?_)
 refine jU 5090651 ?_
 refine jqe (jecP (label_ac v0.t) ?_)
 refine jU 1 ?_;refine jqsp 6 (fun g132=>?_) fun g132=>?_
 rotate_left
 ·refine jU 5150044415004444 ?_
  refine jR (jrt (hv:=?_))
  rw [hR]
  refine cB ?_
  (rw [Bool.eq_iff_iff];simp_all;done)
 refine jU 180002350100 ?_;refine jqsp 12 (fun g132_2=>?_) fun g132_2=>?_
 ·refine jU 501000 ?_
  refine jqe (jecP (moment_ac _) ?_)
  refine jU 518000 ?_
  refine jR (jrt (hv:=?_))
  rw [hR]
  refine cB ?_
  (rw [Bool.eq_iff_iff];simp_all;done)
 refine jU 51500444 ?_
 refine jR (jrt (hv:=?_))
 rw [hR]
 refine cB ?_
 (rw [Bool.eq_iff_iff];simp_all;omega)
set_option maxHeartbeats 2000000 in
theorem rightIss_ac {gs:List Nat} (v0 v1:V4):ACp gs Tryz.prog 165 [.agg 2 (issF [v0,v1])] (.c (.bool (rightRec 6 fsIss [v0,v1]))):=by
 have hR:rightRec 6 fsIss [v0,v1]=((decide ((1:Int)≤(v0.b.length:Nat)) && decide (((v0.b.length:Nat):Int)≤4096)) && ((decide ((0:Int)≤(v1.b.length:Nat)) && decide (((v1.b.length:Nat):Int)≤4096)) && true) && true):=rfl
 refine ac_of 13 Tryz.func165 rfl rfl rfl (fun al w0 F0 St0=>?_)
 refine jcr ?_
 refine jqe (jebx 2 fun p1=>?_)
 refine jU 35090651 ?_
 refine jqe (jecP (within_ac _ _ _) ?_)
 refine jU 1 ?_;refine jqsp 7 (fun g136=>?_) fun g136=>?_
 ·refine jU 5180002350100 ?_
  refine jR (jrt (hv:=?_))
  rw [hR]
  refine cB ?_
  (rw [Bool.eq_iff_iff];simp_all;done)
 refine jU 515004444 ?_
 refine jR (jrt (hv:=?_))
 rw [hR]
 refine cB ?_
 (rw [Bool.eq_iff_iff];simp_all;omega)
end
section
open Go.RowKit Cal
section
variable (n:Nat) (w:W8) (least most:Int) (v:V4)
theorem doW_g {kd:Int} (h1:kd≠1) (h2:kd≠2) (h3:kd≠11) (nn:Int) (b t:List UInt8) (w:W8):doW ⟨kd,nn,false,b,t⟩ w=putW (bodyV ⟨kd,nn,false,b,t⟩).1 (bodyV ⟨kd,nn,false,b,t⟩).2.1 (bodyV ⟨kd,nn,false,b,t⟩).2.2 w:=by
 unfold doW
 rw [if_neg h1,if_neg h2,if_neg h3]
theorem putFd_g {f:Fd} (h:f.call≠0):putFd f v w=doW (fdV f v) w:=by unfold putFd;rw [if_neg h]
theorem octP_ac {gs:List Nat} [Ok9 gs] (hs:OkW w) (hb:v.b.length≤1000000):AC gs Tryz.prog 56 [wrO n w] [.op 0 (some n) 0,bsC v.b] (fun r H'=>r=.c (.tuple #[])∧H'=[wrO n (putFd ⟨6,least,most⟩ v w)]):=by
 have e:putFd ⟨6,least,most⟩ v w=putW 4 v.b 0 w:=by rw [putFd_g _ _ (show ¬ (6:Int)=0 by decide)];exact doW_g (kd:=6) (by decide) (by decide) (by decide) _ _ _ _
 rw [e]
 exact octetsW_ac n w v.b hb hs
theorem momP_ac {gs:List Nat} [Ok9 gs] (hs:OkW w):AC gs Tryz.prog 101 [wrO n w] [.op 0 (some n) 0,.c (.int .i64 v.n)] (fun r H'=>r=.c (.tuple #[])∧H'=[wrO n (putFd ⟨9,least,most⟩ v w)]):=by
 have e:putFd ⟨9,least,most⟩ v w=putW 24 (if inT v.n then bodyL (ofM v.n) else []) (ofE v.n) w:=by rw [putFd_g _ _ (show ¬ (9:Int)=0 by decide)];exact doW_g (kd:=9) (by decide) (by decide) (by decide) _ _ _ _
 rw [e]
 exact momentW_ac n w v.n hs
theorem enumP_ac {gs:List Nat} [Ok9 gs] (hs:OkW w) (hz:-9223372036854775808≤v.n∧v.n≤9223372036854775807):AC gs Tryz.prog 143 [wrO n w] [.op 0 (some n) 0,.c (.int .i64 v.n)] (fun r H'=>r=.c (.tuple #[])∧H'=[wrO n (putFd ⟨4,least,most⟩ v w)]):=by
 have e:putFd ⟨4,least,most⟩ v w=putW 10 (putN v.n) 0 w:=by rw [putFd_g _ _ (show ¬ (4:Int)=0 by decide)];exact doW_g (kd:=4) (by decide) (by decide) (by decide) _ _ _ _
 rw [e]
 exact enumW_ac n w v.n hz hs
theorem intP_ac {gs:List Nat} [Ok9 gs] (hs:OkW w) (hz:-9223372036854775808≤v.n∧v.n≤9223372036854775807):AC gs Tryz.prog 97 [wrO n w] [.op 0 (some n) 0,.c (.int .i64 v.n)] (fun r H'=>r=.c (.tuple #[])∧H'=[wrO n (putFd ⟨3,least,most⟩ v w)]):=by
 have e:putFd ⟨3,least,most⟩ v w=putW 2 (putN v.n) 0 w:=by rw [putFd_g _ _ (show ¬ (3:Int)=0 by decide)];exact doW_g (kd:=3) (by decide) (by decide) (by decide) _ _ _ _
 rw [e]
 exact intW_ac n w v.n hz hs
theorem textP_ac {gs:List Nat} [Ok9 gs] [OkT gs] (hs:OkW w) (ht:v.t.length≤1000000):AC gs Tryz.prog 105 [wrO n w] [.op 0 (some n) 0,strC v.t,.c (.int .i64 24)] (fun r H'=>r=.c (.tuple #[])∧H'=[wrO n (putFd ⟨7,least,most⟩ v w)]):=by
 have e:putFd ⟨7,least,most⟩ v w=putW 12 (if askedM v.t 24=0 then v.t else []) (askedM v.t 24) w:=by rw [putFd_g _ _ (show ¬ (7:Int)=0 by decide)];exact doW_g (kd:=7) (by decide) (by decide) (by decide) _ _ _ _
 rw [e]
 exact textW_ac n w v.t 24 ht hs
end
set_option maxHeartbeats 2000000 in
theorem putCase_ac {gs:List Nat} [OkG gs] [OkT gs] (n:Nat) {i:Nat} {r:R8} {w:W8} (hI:Inv8 i r w) (hi:i≤500) (v0 v1 v2 v3 v4 v5:V4) (hg:GoodFs fsCase [v0,v1,v2,v3,v4,v5]):AC gs Tryz.prog 142 [wrO n w] [.op 0 (some n) 0,.agg 8 (caseF [v0,v1,v2,v3,v4,v5])] (fun r H'=>r=.c (.tuple #[])∧H'=[wrO n (putFds fsCase [v0,v1,v2,v3,v4,v5] w)]):=by
 obtain ⟨g0,g1,g2,g3,g4,g5,_⟩:=hg
 have o0:OkF ⟨0,0,0⟩:=ok_case _ (by simp [fsCase])
 have o1:OkF ⟨6,1,4096⟩:=ok_case _ (by simp [fsCase])
 have o2:OkF ⟨9,0,0⟩:=ok_case _ (by simp [fsCase])
 have o3:OkF ⟨4,0,2⟩:=ok_case _ (by simp [fsCase])
 have o4:OkF ⟨6,0,4096⟩:=ok_case _ (by simp [fsCase])
 have o5:OkF ⟨6,0,4096⟩:=ok_case _ (by simp [fsCase])
 have b1:=fd_body o1 g1 (by decide)
 have b2:=fd_body o2 g2 (by decide)
 have b3:=fd_body o3 g3 (by decide)
 have b4:=fd_body o4 g4 (by decide)
 have b5:=fd_body o5 g5 (by decide)
 have I1:=inv_putFd o0 g0 hI
 have I2:=inv_putFd o1 g1 I1
 have I3:=inv_putFd o2 g2 I2
 have I4:=inv_putFd o3 g3 I3
 have I5:=inv_putFd o4 g4 I4
 have I6:=inv_putFd o5 g5 I5
 refine ac_of 28 Tryz.func142 rfl rfl rfl (fun al w0 F0 St0=>?_)
 refine jcr ?_
 refine jqe (jebx 8 fun p1=>?_)
 refine jU 165 ?_;refine jq (jrfa 0 3 true) ?_;refine jqo (jrdoA 3) ?_
 refine jqm (jmcH 0 (nput_ac n hI (by omega) v0.who) ?_)
 rintro _ _ ⟨rfl,rfl⟩
 refine ⟨_,_,rfl,cZ,?_⟩
 refine jU 505000000165 ?_
 refine jqm (jmcH 0 (octP_ac n _ 1 4096 v1 (inv_okW I1 (by omega)) (by have h:=b1.2.2.2.2.2.2.2.2.1;have h:v1.b.length≤4096:=h;omega)) ?_)
 rintro _ _ ⟨rfl,rfl⟩
 refine ⟨_,_,rfl,cZ,?_⟩
 refine jU 507000000165 ?_
 refine jqm (jmcH 0 (momP_ac n _ 0 0 v2 (inv_okW I2 (by omega))) ?_)
 rintro _ _ ⟨rfl,rfl⟩
 refine ⟨_,_,rfl,cZ,?_⟩
 refine jU 506000000165 ?_
 refine jqm (jmcH 0 (enumP_ac n _ 0 2 v3 (inv_okW I3 (by omega)) b3.2.2.2.2.2.2.1) ?_)
 rintro _ _ ⟨rfl,rfl⟩
 refine ⟨_,_,rfl,cZ,?_⟩
 refine jU 5020000000165 ?_
 refine jqm (jmcH 0 (octP_ac n _ 0 4096 v4 (inv_okW I4 (by omega)) (by have h:=b4.2.2.2.2.2.2.2.2.1;have h:v4.b.length≤4096:=h;omega)) ?_)
 rintro _ _ ⟨rfl,rfl⟩
 refine ⟨_,_,rfl,cZ,?_⟩
 refine jU 12005 ?_;refine jq (jrfa 7 1 false) ?_;refine jU 50 ?_
 refine jqm (jmcH 0 (octP_ac n _ 0 4096 v5 (inv_okW I5 (by omega)) (by have h:=b5.2.2.2.2.2.2.2.2.1;have h:v5.b.length≤4096:=h;omega)) ?_)
 rintro _ _ ⟨rfl,rfl⟩
 refine ⟨_,_,rfl,cZ,?_⟩
 refine jU 5 ?_
 exact end_own (.inr rfl) _ [_] [0] (by decide) rfl (res_0 rfl) ⟨rfl,rfl⟩
set_option maxHeartbeats 4000000 in
theorem getCase_ac {gs:List Nat} [OkG gs] [OkT gs] (n:Nat) (l:List (List UInt8)) (k:Nat) (hl:0<l.length∧l.length≤1000) (hb:muS l k≤100000):AC gs Tryz.prog 144 [rdO n l k] [.op 0 (some n) 0] (fun r H'=>r=.agg 8 (caseF (readFs fsCase l k).2)∧H'=[rdO n (readFs fsCase l k).1.1 (readFs fsCase l k).1.2]):=by
 have o0:OkF ⟨0,0,0⟩:=ok_case _ (by simp [fsCase])
 obtain ⟨l1,m1⟩:=field_bd ⟨0,0,0⟩ o0 hl hb
 have n0:=now_le hb
 generalize hx0:readF ⟨0,0,0⟩ l k=x0 at *
 have o1:OkF ⟨6,1,4096⟩:=ok_case _ (by simp [fsCase])
 obtain ⟨l2,m2⟩:=field_bd ⟨6,1,4096⟩ o1 l1 m1
 have n1:=now_le m1
 generalize hx1:readF ⟨6,1,4096⟩ x0.1.1 x0.1.2=x1 at *
 have o2:OkF ⟨9,0,0⟩:=ok_case _ (by simp [fsCase])
 obtain ⟨l3,m3⟩:=field_bd ⟨9,0,0⟩ o2 l2 m2
 have n2:=now_le m2
 generalize hx2:readF ⟨9,0,0⟩ x1.1.1 x1.1.2=x2 at *
 have o3:OkF ⟨4,0,2⟩:=ok_case _ (by simp [fsCase])
 obtain ⟨l4,m4⟩:=field_bd ⟨4,0,2⟩ o3 l3 m3
 have n3:=now_le m3
 generalize hx3:readF ⟨4,0,2⟩ x2.1.1 x2.1.2=x3 at *
 have o4:OkF ⟨6,0,4096⟩:=ok_case _ (by simp [fsCase])
 obtain ⟨l5,m5⟩:=field_bd ⟨6,0,4096⟩ o4 l4 m4
 have n4:=now_le m4
 generalize hx4:readF ⟨6,0,4096⟩ x3.1.1 x3.1.2=x4 at *
 have o5:OkF ⟨6,0,4096⟩:=ok_case _ (by simp [fsCase])
 obtain ⟨l6,m6⟩:=field_bd ⟨6,0,4096⟩ o5 l5 m5
 have n5:=now_le m5
 generalize hx5:readF ⟨6,0,4096⟩ x4.1.1 x4.1.2=x5 at *
 have hF:readFs fsCase l k=(x5.1,[x0.2,x1.2,x2.2,x3.2,x4.2,x5.2]):=by
  show readFs (_::_) l k=_
  simp only [readFs,hx0,hx1,hx2,hx3,hx4,hx5]
 rw [hF]
 refine ac_of 16 Tryz.func144 rfl rfl rfl (fun al w0 F0 St0=>?_)
 refine jcr ?_
 refine jqe (jeal (n:=8) zr38 rfl fun p1=>?_)
 refine jU 165 ?_
 refine jqm (jmcH 0 ((by have h:=subF_ac (gs:=gs) n l k ⟨0,0,0⟩ rfl (by omega) (by omega);rw [hx0] at h;exact h)) ?_)
 rintro _ _ ⟨rfl,rfl⟩
 refine ⟨_,_,rfl,cZ,?_⟩
 refine jU 1 ?_
 refine jqm (jmcH 0 ((by have h:=octF_ac (gs:=gs) n x0.1.1 x0.1.2 1 4096 (by omega) (by omega);rw [hx1] at h;exact h)) ?_)
 rintro _ _ ⟨rfl,rfl⟩
 refine ⟨_,_,rfl,cZ,?_⟩
 refine jU 1 ?_
 refine jqm (jmcH 0 ((by have h:=momF_ac (gs:=gs) n x1.1.1 x1.1.2 0 0 (by omega) (by omega);rw [hx2] at h;exact h)) ?_)
 rintro _ _ ⟨rfl,rfl⟩
 refine ⟨_,_,rfl,cZ,?_⟩
 refine jU 1 ?_
 refine jqm (jmcH 0 ((by have h:=enumF_ac (gs:=gs) n x2.1.1 x2.1.2 0 2 (by omega) (by omega);rw [hx3] at h;exact h)) ?_)
 rintro _ _ ⟨rfl,rfl⟩
 refine ⟨_,_,rfl,cZ,?_⟩
 refine jU 1 ?_
 refine jqm (jmcH 0 ((by have h:=octF_ac (gs:=gs) n x3.1.1 x3.1.2 0 4096 (by omega) (by omega);rw [hx4] at h;exact h)) ?_)
 rintro _ _ ⟨rfl,rfl⟩
 refine ⟨_,_,rfl,cZ,?_⟩
 refine jU 1 ?_
 refine jqm (jmcH 0 ((by have h:=octF_ac (gs:=gs) n x4.1.1 x4.1.2 0 4096 (by omega) (by omega);rw [hx5] at h;exact h)) ?_)
 rintro _ _ ⟨rfl,rfl⟩
 refine ⟨_,_,rfl,cZ,?_⟩
 refine jq (rd_build (n:=8) rfl zr38 pl38 rfl rfl) ?_
 refine jqm (jmst 8 ?_)
 refine jU 70005 ?_
 exact end_H (.inl rfl) rfl (res_1 rfl (javA 8)) (CEnt.agg rfl (fun j hj=>by rcases j with _|_|_|_|_|_|_|_|j <;> first|exact cZ|omega))
set_option maxHeartbeats 4000000 in
theorem getAuth_ac {gs:List Nat} [OkG gs] (n:Nat) (l:List (List UInt8)) (k:Nat) (hl:0<l.length∧l.length≤1000) (hb:muS l k≤100000):AC gs Tryz.prog 149 [rdO n l k] [.op 0 (some n) 0] (fun r H'=>r=.agg 7 (authF (readFs fsAuth l k).2)∧H'=[rdO n (readFs fsAuth l k).1.1 (readFs fsAuth l k).1.2]):=by
 have o0:OkF ⟨3,1,1048576⟩:=ok_auth _ (by simp [fsAuth])
 obtain ⟨l1,m1⟩:=field_bd ⟨3,1,1048576⟩ o0 hl hb
 have n0:=now_le hb
 generalize hx0:readF ⟨3,1,1048576⟩ l k=x0 at *
 have o1:OkF ⟨6,16,64⟩:=ok_auth _ (by simp [fsAuth])
 obtain ⟨l2,m2⟩:=field_bd ⟨6,16,64⟩ o1 l1 m1
 have n1:=now_le m1
 generalize hx1:readF ⟨6,16,64⟩ x0.1.1 x0.1.2=x1 at *
 have o2:OkF ⟨4,1,4⟩:=ok_auth _ (by simp [fsAuth])
 obtain ⟨l3,m3⟩:=field_bd ⟨4,1,4⟩ o2 l2 m2
 have n2:=now_le m2
 generalize hx2:readF ⟨4,1,4⟩ x1.1.1 x1.1.2=x2 at *
 have o3:OkF ⟨9,0,0⟩:=ok_auth _ (by simp [fsAuth])
 obtain ⟨l4,m4⟩:=field_bd ⟨9,0,0⟩ o3 l3 m3
 have n3:=now_le m3
 generalize hx3:readF ⟨9,0,0⟩ x2.1.1 x2.1.2=x3 at *
 have o4:OkF ⟨9,0,0⟩:=ok_auth _ (by simp [fsAuth])
 obtain ⟨l5,m5⟩:=field_bd ⟨9,0,0⟩ o4 l4 m4
 have n4:=now_le m4
 generalize hx4:readF ⟨9,0,0⟩ x3.1.1 x3.1.2=x4 at *
 have o5:OkF ⟨9,0,0⟩:=ok_auth _ (by simp [fsAuth])
 obtain ⟨l6,m6⟩:=field_bd ⟨9,0,0⟩ o5 l5 m5
 have n5:=now_le m5
 generalize hx5:readF ⟨9,0,0⟩ x4.1.1 x4.1.2=x5 at *
 have o6:OkF ⟨3,0,1099511627776⟩:=ok_auth _ (by simp [fsAuth])
 obtain ⟨l7,m7⟩:=field_bd ⟨3,0,1099511627776⟩ o6 l6 m6
 have n6:=now_le m6
 generalize hx6:readF ⟨3,0,1099511627776⟩ x5.1.1 x5.1.2=x6 at *
 have hF:readFs fsAuth l k=(x6.1,[x0.2,x1.2,x2.2,x3.2,x4.2,x5.2,x6.2]):=by
  show readFs (_::_) l k=_
  simp only [readFs,hx0,hx1,hx2,hx3,hx4,hx5,hx6]
 rw [hF]
 refine ac_of 18 Tryz.func149 rfl rfl rfl (fun al w0 F0 St0=>?_)
 refine jcr ?_
 refine jqe (jeal (n:=7) zr52 rfl fun p1=>?_)
 refine jU 165 ?_
 refine jqm (jmcH 0 ((by have h:=intF_ac (gs:=gs) n l k 1 1048576 (by omega) (by omega);rw [hx0] at h;exact h)) ?_)
 rintro _ _ ⟨rfl,rfl⟩
 refine ⟨_,_,rfl,cZ,?_⟩
 refine jU 1 ?_
 refine jqm (jmcH 0 ((by have h:=octF_ac (gs:=gs) n x0.1.1 x0.1.2 16 64 (by omega) (by omega);rw [hx1] at h;exact h)) ?_)
 rintro _ _ ⟨rfl,rfl⟩
 refine ⟨_,_,rfl,cZ,?_⟩
 refine jU 1 ?_
 refine jqm (jmcH 0 ((by have h:=enumF_ac (gs:=gs) n x1.1.1 x1.1.2 1 4 (by omega) (by omega);rw [hx2] at h;exact h)) ?_)
 rintro _ _ ⟨rfl,rfl⟩
 refine ⟨_,_,rfl,cZ,?_⟩
 refine jU 1 ?_
 refine jqm (jmcH 0 ((by have h:=momF_ac (gs:=gs) n x2.1.1 x2.1.2 0 0 (by omega) (by omega);rw [hx3] at h;exact h)) ?_)
 rintro _ _ ⟨rfl,rfl⟩
 refine ⟨_,_,rfl,cZ,?_⟩
 refine jU 1 ?_
 refine jqm (jmcH 0 ((by have h:=momF_ac (gs:=gs) n x3.1.1 x3.1.2 0 0 (by omega) (by omega);rw [hx4] at h;exact h)) ?_)
 rintro _ _ ⟨rfl,rfl⟩
 refine ⟨_,_,rfl,cZ,?_⟩
 refine jU 1 ?_
 refine jqm (jmcH 0 ((by have h:=momF_ac (gs:=gs) n x4.1.1 x4.1.2 0 0 (by omega) (by omega);rw [hx5] at h;exact h)) ?_)
 rintro _ _ ⟨rfl,rfl⟩
 refine ⟨_,_,rfl,cZ,?_⟩
 refine jU 1 ?_
 refine jqm (jmcH 0 ((by have h:=intF_ac (gs:=gs) n x5.1.1 x5.1.2 0 1099511627776 (by omega) (by omega);rw [hx6] at h;exact h)) ?_)
 rintro _ _ ⟨rfl,rfl⟩
 refine ⟨_,_,rfl,cZ,?_⟩
 refine jq (rd_build (n:=7) rfl zr52 pl52 rfl rfl) ?_
 refine jqm (jmst 7 ?_)
 refine jU 70005 ?_
 exact end_H (.inl rfl) rfl (res_1 rfl (javA 7)) (CEnt.agg rfl (fun j hj=>by rcases j with _|_|_|_|_|_|_|j <;> first|exact cZ|omega))
set_option maxHeartbeats 2000000 in
theorem putMark_ac {gs:List Nat} [OkG gs] (n:Nat) {i:Nat} {r:R8} {w:W8} (hI:Inv8 i r w) (hi:i≤500) (v0 v1 v2 v3:V4) (hg:GoodFs fsMark [v0,v1,v2,v3]):AC gs Tryz.prog 160 [wrO n w] [.op 0 (some n) 0,.agg 4 (markF [v0,v1,v2,v3])] (fun r H'=>r=.c (.tuple #[])∧H'=[wrO n (putFds fsMark [v0,v1,v2,v3] w)]):=by
 obtain ⟨g0,g1,g2,g3,_⟩:=hg
 have o0:OkF ⟨3,1,1048576⟩:=ok_mark _ (by simp [fsMark])
 have o1:OkF ⟨3,1,1099511627776⟩:=ok_mark _ (by simp [fsMark])
 have o2:OkF ⟨9,0,0⟩:=ok_mark _ (by simp [fsMark])
 have o3:OkF ⟨9,0,0⟩:=ok_mark _ (by simp [fsMark])
 have b0:=fd_body o0 g0 (by decide)
 have b1:=fd_body o1 g1 (by decide)
 have b2:=fd_body o2 g2 (by decide)
 have b3:=fd_body o3 g3 (by decide)
 have I1:=inv_putFd o0 g0 hI
 have I2:=inv_putFd o1 g1 I1
 have I3:=inv_putFd o2 g2 I2
 have I4:=inv_putFd o3 g3 I3
 refine ac_of 20 Tryz.func160 rfl rfl rfl (fun al w0 F0 St0=>?_)
 refine jcr ?_
 refine jqe (jebx 4 fun p1=>?_)
 refine jU 5090165 ?_
 refine jqm (jmcH 0 (intP_ac n _ 1 1048576 v0 (inv_okW hI (by omega)) b0.2.2.2.2.2.2.1) ?_)
 rintro _ _ ⟨rfl,rfl⟩
 refine ⟨_,_,rfl,cZ,?_⟩
 refine jU 50100165 ?_
 refine jqm (jmcH 0 (intP_ac n _ 1 1099511627776 v1 (inv_okW I1 (by omega)) b1.2.2.2.2.2.2.1) ?_)
 rintro _ _ ⟨rfl,rfl⟩
 refine ⟨_,_,rfl,cZ,?_⟩
 refine jU 501000165 ?_
 refine jqm (jmcH 0 (momP_ac n _ 0 0 v2 (inv_okW I2 (by omega))) ?_)
 rintro _ _ ⟨rfl,rfl⟩
 refine ⟨_,_,rfl,cZ,?_⟩
 refine jU 50500000012005 ?_
 refine jqm (jmcH 0 (momP_ac n _ 0 0 v3 (inv_okW I3 (by omega))) ?_)
 rintro _ _ ⟨rfl,rfl⟩
 refine ⟨_,_,rfl,cZ,?_⟩
 refine jU 5 ?_
 exact end_own (.inr rfl) _ [_] [0] (by decide) rfl (res_0 rfl) ⟨rfl,rfl⟩
set_option maxHeartbeats 4000000 in
theorem getMark_ac {gs:List Nat} [OkG gs] (n:Nat) (l:List (List UInt8)) (k:Nat) (hl:0<l.length∧l.length≤1000) (hb:muS l k≤100000):AC gs Tryz.prog 161 [rdO n l k] [.op 0 (some n) 0] (fun r H'=>r=.agg 4 (markF (readFs fsMark l k).2)∧H'=[rdO n (readFs fsMark l k).1.1 (readFs fsMark l k).1.2]):=by
 have o0:OkF ⟨3,1,1048576⟩:=ok_mark _ (by simp [fsMark])
 obtain ⟨l1,m1⟩:=field_bd ⟨3,1,1048576⟩ o0 hl hb
 have n0:=now_le hb
 generalize hx0:readF ⟨3,1,1048576⟩ l k=x0 at *
 have o1:OkF ⟨3,1,1099511627776⟩:=ok_mark _ (by simp [fsMark])
 obtain ⟨l2,m2⟩:=field_bd ⟨3,1,1099511627776⟩ o1 l1 m1
 have n1:=now_le m1
 generalize hx1:readF ⟨3,1,1099511627776⟩ x0.1.1 x0.1.2=x1 at *
 have o2:OkF ⟨9,0,0⟩:=ok_mark _ (by simp [fsMark])
 obtain ⟨l3,m3⟩:=field_bd ⟨9,0,0⟩ o2 l2 m2
 have n2:=now_le m2
 generalize hx2:readF ⟨9,0,0⟩ x1.1.1 x1.1.2=x2 at *
 have o3:OkF ⟨9,0,0⟩:=ok_mark _ (by simp [fsMark])
 obtain ⟨l4,m4⟩:=field_bd ⟨9,0,0⟩ o3 l3 m3
 have n3:=now_le m3
 generalize hx3:readF ⟨9,0,0⟩ x2.1.1 x2.1.2=x3 at *
 have hF:readFs fsMark l k=(x3.1,[x0.2,x1.2,x2.2,x3.2]):=by
  show readFs (_::_) l k=_
  simp only [readFs,hx0,hx1,hx2,hx3]
 rw [hF]
 refine ac_of 12 Tryz.func161 rfl rfl rfl (fun al w0 F0 St0=>?_)
 refine jcr ?_
 refine jqe (jeal (n:=4) zr67 rfl fun p1=>?_)
 refine jU 165 ?_
 refine jqm (jmcH 0 ((by have h:=intF_ac (gs:=gs) n l k 1 1048576 (by omega) (by omega);rw [hx0] at h;exact h)) ?_)
 rintro _ _ ⟨rfl,rfl⟩
 refine ⟨_,_,rfl,cZ,?_⟩
 refine jU 1 ?_
 refine jqm (jmcH 0 ((by have h:=intF_ac (gs:=gs) n x0.1.1 x0.1.2 1 1099511627776 (by omega) (by omega);rw [hx1] at h;exact h)) ?_)
 rintro _ _ ⟨rfl,rfl⟩
 refine ⟨_,_,rfl,cZ,?_⟩
 refine jU 1 ?_
 refine jqm (jmcH 0 ((by have h:=momF_ac (gs:=gs) n x1.1.1 x1.1.2 0 0 (by omega) (by omega);rw [hx2] at h;exact h)) ?_)
 rintro _ _ ⟨rfl,rfl⟩
 refine ⟨_,_,rfl,cZ,?_⟩
 refine jU 1 ?_
 refine jqm (jmcH 0 ((by have h:=momF_ac (gs:=gs) n x2.1.1 x2.1.2 0 0 (by omega) (by omega);rw [hx3] at h;exact h)) ?_)
 rintro _ _ ⟨rfl,rfl⟩
 refine ⟨_,_,rfl,cZ,?_⟩
 refine jq (rd_build (n:=4) rfl zr67 pl67 rfl rfl) ?_
 refine jqm (jmst 4 ?_)
 refine jU 70005 ?_
 exact end_H (.inl rfl) rfl (res_1 rfl (javA 4)) (CEnt.agg rfl (fun j hj=>by rcases j with _|_|_|_|j <;> first|exact cZ|omega))
set_option maxHeartbeats 2000000 in
theorem putTick_ac {gs:List Nat} [OkG gs] [OkT gs] (n:Nat) {i:Nat} {r:R8} {w:W8} (hI:Inv8 i r w) (hi:i≤500) (v0 v1 v2:V4) (hg:GoodFs fsTick [v0,v1,v2]):AC gs Tryz.prog 163 [wrO n w] [.op 0 (some n) 0,.agg 3 (tickF [v0,v1,v2])] (fun r H'=>r=.c (.tuple #[])∧H'=[wrO n (putFds fsTick [v0,v1,v2] w)]):=by
 obtain ⟨g0,g1,g2,_⟩:=hg
 have o0:OkF ⟨7,1,24⟩:=ok_tick _ (by simp [fsTick])
 have o1:OkF ⟨6,32,32⟩:=ok_tick _ (by simp [fsTick])
 have o2:OkF ⟨9,0,0⟩:=ok_tick _ (by simp [fsTick])
 have b0:=fd_body o0 g0 (by decide)
 have b1:=fd_body o1 g1 (by decide)
 have b2:=fd_body o2 g2 (by decide)
 have I1:=inv_putFd o0 g0 hI
 have I2:=inv_putFd o1 g1 I1
 have I3:=inv_putFd o2 g2 I2
 refine ac_of 16 Tryz.func163 rfl rfl rfl (fun al w0 F0 St0=>?_)
 refine jcr ?_
 refine jqe (jebx 3 fun p1=>?_)
 refine jU 5090165 ?_
 refine jqm (jmcH 0 (textP_ac n _ 1 24 v0 (inv_okW hI (by omega)) (by have h:=b0.2.2.2.2.2.2.2.1;have h:v0.t.length≤300:=h;omega)) ?_)
 rintro _ _ ⟨rfl,rfl⟩
 refine ⟨_,_,rfl,cZ,?_⟩
 refine jU 50100165 ?_
 refine jqm (jmcH 0 (octP_ac n _ 32 32 v1 (inv_okW I1 (by omega)) (by have h:=b1.2.2.2.2.2.2.2.2.1;have h:v1.b.length≤4096:=h;omega)) ?_)
 rintro _ _ ⟨rfl,rfl⟩
 refine ⟨_,_,rfl,cZ,?_⟩
 refine jU 50100012005 ?_
 refine jqm (jmcH 0 (momP_ac n _ 0 0 v2 (inv_okW I2 (by omega))) ?_)
 rintro _ _ ⟨rfl,rfl⟩
 refine ⟨_,_,rfl,cZ,?_⟩
 refine jU 5 ?_
 exact end_own (.inr rfl) _ [_] [0] (by decide) rfl (res_0 rfl) ⟨rfl,rfl⟩
set_option maxHeartbeats 4000000 in
theorem getTick_ac {gs:List Nat} [OkG gs] [OkT gs] (n:Nat) (l:List (List UInt8)) (k:Nat) (hl:0<l.length∧l.length≤1000) (hb:muS l k≤100000):AC gs Tryz.prog 164 [rdO n l k] [.op 0 (some n) 0] (fun r H'=>r=.agg 3 (tickF (readFs fsTick l k).2)∧H'=[rdO n (readFs fsTick l k).1.1 (readFs fsTick l k).1.2]):=by
 have o0:OkF ⟨7,1,24⟩:=ok_tick _ (by simp [fsTick])
 obtain ⟨l1,m1⟩:=field_bd ⟨7,1,24⟩ o0 hl hb
 have n0:=now_le hb
 generalize hx0:readF ⟨7,1,24⟩ l k=x0 at *
 have o1:OkF ⟨6,32,32⟩:=ok_tick _ (by simp [fsTick])
 obtain ⟨l2,m2⟩:=field_bd ⟨6,32,32⟩ o1 l1 m1
 have n1:=now_le m1
 generalize hx1:readF ⟨6,32,32⟩ x0.1.1 x0.1.2=x1 at *
 have o2:OkF ⟨9,0,0⟩:=ok_tick _ (by simp [fsTick])
 obtain ⟨l3,m3⟩:=field_bd ⟨9,0,0⟩ o2 l2 m2
 have n2:=now_le m2
 generalize hx2:readF ⟨9,0,0⟩ x1.1.1 x1.1.2=x2 at *
 have hF:readFs fsTick l k=(x2.1,[x0.2,x1.2,x2.2]):=by
  show readFs (_::_) l k=_
  simp only [readFs,hx0,hx1,hx2]
 rw [hF]
 refine ac_of 10 Tryz.func164 rfl rfl rfl (fun al w0 F0 St0=>?_)
 refine jcr ?_
 refine jqe (jeal (n:=3) zr69 rfl fun p1=>?_)
 refine jU 165 ?_
 refine jqm (jmcH 0 ((by have h:=textF_ac (gs:=gs) n l k 1 24 (by omega) (by omega);rw [hx0] at h;exact h)) ?_)
 rintro _ _ ⟨rfl,rfl⟩
 refine ⟨_,_,rfl,cZ,?_⟩
 refine jU 1 ?_
 refine jqm (jmcH 0 ((by have h:=octF_ac (gs:=gs) n x0.1.1 x0.1.2 32 32 (by omega) (by omega);rw [hx1] at h;exact h)) ?_)
 rintro _ _ ⟨rfl,rfl⟩
 refine ⟨_,_,rfl,cZ,?_⟩
 refine jU 1 ?_
 refine jqm (jmcH 0 ((by have h:=momF_ac (gs:=gs) n x1.1.1 x1.1.2 0 0 (by omega) (by omega);rw [hx2] at h;exact h)) ?_)
 rintro _ _ ⟨rfl,rfl⟩
 refine ⟨_,_,rfl,cZ,?_⟩
 refine jq (rd_build (n:=3) rfl zr69 pl69 rfl rfl) ?_
 refine jqm (jmst 3 ?_)
 refine jU 70005 ?_
 exact end_H (.inl rfl) rfl (res_1 rfl (javA 3)) (CEnt.agg rfl (fun j hj=>by rcases j with _|_|_|j <;> first|exact cZ|omega))
set_option maxHeartbeats 2000000 in
theorem putIss_ac {gs:List Nat} [OkG gs] (n:Nat) {i:Nat} {r:R8} {w:W8} (hI:Inv8 i r w) (hi:i≤500) (v0 v1:V4) (hg:GoodFs fsIss [v0,v1]):AC gs Tryz.prog 166 [wrO n w] [.op 0 (some n) 0,.agg 2 (issF [v0,v1])] (fun r H'=>r=.c (.tuple #[])∧H'=[wrO n (putFds fsIss [v0,v1] w)]):=by
 obtain ⟨g0,g1,_⟩:=hg
 have o0:OkF ⟨6,1,4096⟩:=ok_iss _ (by simp [fsIss])
 have o1:OkF ⟨6,0,4096⟩:=ok_iss _ (by simp [fsIss])
 have b0:=fd_body o0 g0 (by decide)
 have b1:=fd_body o1 g1 (by decide)
 have I1:=inv_putFd o0 g0 hI
 have I2:=inv_putFd o1 g1 I1
 refine ac_of 12 Tryz.func166 rfl rfl rfl (fun al w0 F0 St0=>?_)
 refine jcr ?_
 refine jqe (jebx 2 fun p1=>?_)
 refine jU 5090165 ?_
 refine jqm (jmcH 0 (octP_ac n _ 1 4096 v0 (inv_okW hI (by omega)) (by have h:=b0.2.2.2.2.2.2.2.2.1;have h:v0.b.length≤4096:=h;omega)) ?_)
 rintro _ _ ⟨rfl,rfl⟩
 refine ⟨_,_,rfl,cZ,?_⟩
 refine jU 5010012005 ?_
 refine jqm (jmcH 0 (octP_ac n _ 0 4096 v1 (inv_okW I1 (by omega)) (by have h:=b1.2.2.2.2.2.2.2.2.1;have h:v1.b.length≤4096:=h;omega)) ?_)
 rintro _ _ ⟨rfl,rfl⟩
 refine ⟨_,_,rfl,cZ,?_⟩
 refine jU 5 ?_
 exact end_own (.inr rfl) _ [_] [0] (by decide) rfl (res_0 rfl) ⟨rfl,rfl⟩
set_option maxHeartbeats 4000000 in
theorem getIss_ac {gs:List Nat} [OkG gs] (n:Nat) (l:List (List UInt8)) (k:Nat) (hl:0<l.length∧l.length≤1000) (hb:muS l k≤100000):AC gs Tryz.prog 167 [rdO n l k] [.op 0 (some n) 0] (fun r H'=>r=.agg 2 (issF (readFs fsIss l k).2)∧H'=[rdO n (readFs fsIss l k).1.1 (readFs fsIss l k).1.2]):=by
 have o0:OkF ⟨6,1,4096⟩:=ok_iss _ (by simp [fsIss])
 obtain ⟨l1,m1⟩:=field_bd ⟨6,1,4096⟩ o0 hl hb
 have n0:=now_le hb
 generalize hx0:readF ⟨6,1,4096⟩ l k=x0 at *
 have o1:OkF ⟨6,0,4096⟩:=ok_iss _ (by simp [fsIss])
 obtain ⟨l2,m2⟩:=field_bd ⟨6,0,4096⟩ o1 l1 m1
 have n1:=now_le m1
 generalize hx1:readF ⟨6,0,4096⟩ x0.1.1 x0.1.2=x1 at *
 have hF:readFs fsIss l k=(x1.1,[x0.2,x1.2]):=by
  show readFs (_::_) l k=_
  simp only [readFs,hx0,hx1]
 rw [hF]
 refine ac_of 8 Tryz.func167 rfl rfl rfl (fun al w0 F0 St0=>?_)
 refine jcr ?_
 refine jqe (jeal (n:=2) zr71 rfl fun p1=>?_)
 refine jU 165 ?_
 refine jqm (jmcH 0 ((by have h:=octF_ac (gs:=gs) n l k 1 4096 (by omega) (by omega);rw [hx0] at h;exact h)) ?_)
 rintro _ _ ⟨rfl,rfl⟩
 refine ⟨_,_,rfl,cZ,?_⟩
 refine jU 1 ?_
 refine jqm (jmcH 0 ((by have h:=octF_ac (gs:=gs) n x0.1.1 x0.1.2 0 4096 (by omega) (by omega);rw [hx1] at h;exact h)) ?_)
 rintro _ _ ⟨rfl,rfl⟩
 refine ⟨_,_,rfl,cZ,?_⟩
 refine jq (rd_build (n:=2) rfl zr71 pl71 rfl rfl) ?_
 refine jqm (jmst 2 ?_)
 refine jU 70005 ?_
 exact end_H (.inl rfl) rfl (res_1 rfl (javA 2)) (CEnt.agg rfl (fun j hj=>by rcases j with _|_|j <;> first|exact cZ|omega))
end
section
open Go.RowKit Cal
theorem recBytesCase_ac {gs:List Nat} [Ok9 gs] {fR fP fG:FuncId} (hcR:calleeB Tryz.prog fR=true) (hcP:calleeB Tryz.prog fP=true) (kind:Int) (hk:KindOk kind) (X:Nat→CV) (rb:Bool) (s2:W8) (hR:ACp gs Tryz.prog fR [.agg 8 X] (.c (.bool rb))) (hP:rb=true→∀ n,AC gs Tryz.prog fP [wrO n (doW (vE kind) (doW (w1 48) w00))] [.op 0 (some n) 0,.agg 8 X] (fun r H'=>r=.c (.tuple #[])∧H'=[wrO n s2])) (h2:rb=true→OkW s2) (h3:rb=true→OkW (closeV s2)) :
  ACp gs Tryz.prog 70 [recC kind fR fP fG,.agg 8 X] (.tup 2 (fl [bsC (if rb=true then doneB (closeV s2) else []),.err (if rb=true then doneK (closeV s2) else 4)])):=by
 have I0:=inv_rec0 hk
 have I1:=inv_do inv_00 (small_w1 (t:=48) (by decide))
 refine ac_of 32 Tryz.func70 rfl rfl rfl (fun al w0 F0 St0=>?_)
 refine jcr ?_
 refine jqe (jebx 4 fun p1=>?_)
 refine jqe (jebx 8 fun p2=>?_)
 refine jU 5010067511 ?_;refine jqo (jrdoA 8) ?_
 refine jqe (e_callV rfl rfl (by assumption) (hR) (.cons (CEnt.agg rfl (fun j hj=>by rcases j with _|_|_|_|_|_|_|_|j <;> first|exact cZ|omega)) .nil) rfl rfl ?_)
 rintro _ _ ⟨rfl,rfl⟩
 refine jU 530 ?_;refine jcc (fun h78=>?_) fun h78=>?_
 ·refine jcs ?_;refine jcd (.rd 0 (.rd 1 (.rd 2 .done))) ?_;refine jU 88070704000000 ?_
  refine jR (jtr (jrt (hv:=?_)))
  have hrb:rb=false:=by simpa using h78
  rw [hrb,if_neg (by decide),if_neg (by decide)]
  exact cT cN cZ
 refine jU 810 ?_
 have hrb:rb=true:=by simpa using h78
 rw [if_pos hrb,if_pos hrb]
 refine jcr ?_;refine jq (rd_build (n:=3) rfl zr95 pl95 rfl rfl) ?_
 refine jqe (jebx 3 fun p3=>?_)
 refine jU 51 ?_;refine code_knowG (know_op 14 rfl) fun hn=>?_
 obtain ⟨n,rfl⟩:=hn
 refine jE (newW n 2 rfl cZ cZ CEnt.nil) ?_
 dsimp only [List.set_cons_zero,List.set_cons_succ,List.cons_append,List.nil_append,List.length_cons,List.length_nil,Nat.zero_add,Nat.reduceAdd]
 refine jU 16 ?_
 refine jqm (jmcH 2 ((by have h:=openW_ac (gs:=gs) n w00 48 ok0;rw [← do_w1] at h;exact h)) ?_)
 rintro _ _ ⟨rfl,rfl⟩
 refine ⟨_,_,rfl,cZ,?_⟩
 refine jU 5090165 ?_
 refine jqm (jmcH 2 ((by have h:=enumW_ac (gs:=gs) n (doW (w1 48) w00) kind (by unfold KindOk at hk;omega) (inv_okW I1 (by decide));rw [← do_vE] at h;exact h)) ?_)
 rintro _ _ ⟨rfl,rfl⟩
 refine ⟨_,_,rfl,cZ,?_⟩
 refine jU 150100065 ?_;refine jqo (jrdoA 8) ?_
 refine jqm (m_callHV1 (i:=2) rfl rfl (by assumption) rfl (hP hrb n) (.cons cP (.cons (CEnt.agg rfl (fun j hj=>by rcases j with _|_|_|_|_|_|_|_|j <;> first|exact cZ|omega)) .nil)) rfl rfl ?_)
 rintro _ _ ⟨rfl,rfl⟩
 refine ⟨_,rfl,?_⟩
 refine jU 165 ?_
 refine jqm (jmcH 2 (closeW_ac n s2 (h2 hrb)) ?_)
 rintro _ _ ⟨rfl,rfl⟩
 refine ⟨_,_,rfl,cZ,?_⟩
 refine jU 165 ?_
 refine jqm (jmcH 2 (doneW_ac n (closeV s2) (h3 hrb)) ?_)
 rintro _ _ ⟨rfl,rfl⟩
 refine ⟨_,_,rfl,cZ,?_⟩
 refine jU 511900900 ?_
 refine jR (jrt (hv:=cZ))
set_option maxHeartbeats 2000000 in
theorem recReadCase_ac {gs:List Nat} [Ok9 gs] {fR fP fG:FuncId} (hcR:calleeB Tryz.prog fR=true) (hcG:calleeB Tryz.prog fG=true) (kind:Int) (hk:KindOk kind) (fs:List Fd) (hfl:fs.length≤8) (hok:∀ f ∈ fs,OkF f) (X:List V4→Nat→CV) (hlf:∀ vs,(List.map (X vs) (List.range 8)).all leafC=true) (hz:∀ j,j<8→CEnt (fl [.c (.int .i64 0),strC [],strC [],.c (.slice none 0 0),.c (.int .i64 0),.c (.int .i64 0),.c (.slice none 0 0),.c (.slice none 0 0)] j) (X (List.replicate fs.length V4.z) j)) (hR:∀ vs:List V4,vs.length=fs.length→ACp gs Tryz.prog fR [.agg 8 (X vs)] (.c (.bool (rightRec kind fs vs)))) (hG:∀ n l k,0<l.length∧l.length≤1000→muS l k≤100000→AC gs Tryz.prog fG [rdO n l k] [.op 0 (some n) 0] (fun r H'=>r=.agg 8 (X (readFs fs l k).2)∧H'=[rdO n (readFs fs l k).1.1 (readFs fs l k).1.2])) (b:List UInt8) (hb:b.length≤90000) :
  ACp gs Tryz.prog 72 [recC kind fR fP fG,bsC b] (.tup 2 (fl [.agg 8 (X (recM kind fs b).1),.err (recM kind fs b).2])):=by
 have m0:muS [b] (depthM b).2≤100000:=by
  have:sumL [b]=b.length:=by simp [sumL]
  unfold muS
  split <;> omega
 obtain ⟨f1,f2⟩:=read_enter aL rfl [b] (depthM b).2
 have f1':(readR aL [b] (depthM b).2).l=enterL 48 [b] (depthM b).2:=f1
 have f2':(readR aL [b] (depthM b).2).k=(enterR 48 [b] (depthM b).2).k:=f2
 obtain ⟨l1,m1⟩:=read_bd aL (m:=1) ⟨by simp,by simp⟩ m0 (by decide)
 obtain ⟨l2,m2⟩:=read_bd (aK kind) l1 m1 (by show ¬ (4:Int)=2;decide)
 obtain ⟨_,l3⟩:=fields_k fs (k:=(readR (aK kind) (readR aL [b] (depthM b).2).l (readR aL [b] (depthM b).2).k).k) hok l2.1
 have hvl:=readFs_length fs (readR (aK kind) (readR aL [b] (depthM b).2).l (readR aL [b] (depthM b).2).k).l (readR (aK kind) (readR aL [b] (depthM b).2).l (readR aL [b] (depthM b).2).k).k
 generalize hx:readFs fs (readR (aK kind) (readR aL [b] (depthM b).2).l (readR aL [b] (depthM b).2).k).l (readR (aK kind) (readR aL [b] (depthM b).2).l (readR aL [b] (depthM b).2).k).k=x at *
 obtain ⟨f3,f4⟩:=read_leave aE rfl x.1.1 x.1.2
 have l4:0<(readR aE x.1.1 x.1.2).l.length∧(readR aE x.1.1 x.1.2).l.length≤1000:=by
  rw [f3]
  obtain ⟨_,_,v3,v4⟩:=leave_mu (l:=x.1.1) (k:=x.1.2) l3.1
  by_cases h0:leaveK x.1.1 x.1.2=0
  ·have:=v3 h0;omega
  ·rw [v4 h0];omega
 have hM1:(readRec kind fs b).1=x.2:=by unfold readRec;dsimp only;rw [hx]
 have hM2:(readRec kind fs b).2=endK (readR aE x.1.1 x.1.2).l (readR aE x.1.1 x.1.2).k:=by unfold readRec;dsimp only;rw [hx]
 have n1:=now_le m1
 refine ac_of 40 Tryz.func72 rfl rfl rfl (fun al w0 F0 St0=>?_)
 refine jcr ?_
 refine jqe (jebx 4 fun p1=>?_)
 refine jqe (jeal (n:=8) zr38 rfl fun p2=>?_)
 refine jU 651 ?_
 refine jqe (jeal (n:=8) zr38 rfl fun p3=>?_)
 refine jU 165 ?_
 refine jqe (jecS (read08_ac b (by omega)) ?_)
 rintro _ _ ⟨n,rfl,rfl⟩
 refine jU 1651 ?_
 refine jqm (jmcH 3 ((by have h:=enter_ac (gs:=gs) n [b] (depthM b).2 48 (by simp) (by show b.length≤_;omega);rw [← f1',← f2'] at h;exact h)) ?_)
 rintro _ _ ⟨rfl,rfl⟩
 refine ⟨_,_,rfl,cZ,?_⟩
 refine jU 50905090165 ?_
 refine jqm (jmcH 3 (enumR_ac n (readR aL [b] (depthM b).2).l (readR aL [b] (depthM b).2).k kind (by omega) (by omega)) ?_)
 rintro _ _ ⟨rfl,rfl⟩
 refine ⟨_,_,rfl,cZ,?_⟩
 refine jU 150500000065 ?_
 refine jqm (m_callHV1 (i:=3) rfl rfl (by assumption) rfl ((by have h:=hG n (readR (aK kind) (readR aL [b] (depthM b).2).l (readR aL [b] (depthM b).2).k).l (readR (aK kind) (readR aL [b] (depthM b).2).l (readR aL [b] (depthM b).2).k).k (by omega) m2;rw [hx] at h;exact h)) (.cons cP .nil) rfl rfl ?_)
 rintro _ _ ⟨rfl,rfl⟩
 refine ⟨_,rfl,?_⟩
 refine jqe (jeal (n:=8) zr38 rfl fun p6=>?_)
 refine jqm (jmstF 8 (X x.2) ?_ ?_ (hleaf:=hlf _))
 ·exact (fun j hj=>by rcases j with _|_|_|_|_|_|_|_|j <;> first|exact cZ|omega)
 refine jU 165 ?_
 refine jqm (jmcH 3 ((by have h:=leave_ac (gs:=gs) n x.1.1 x.1.2 (by omega);rw [← f3,← f4] at h;exact h)) ?_)
 rintro _ _ ⟨rfl,rfl⟩
 refine ⟨_,_,rfl,cZ,?_⟩
 refine jU 1675 ?_
 refine jqm (jmcH 3 (end08_ac n (readR aE x.1.1 x.1.2).l (readR aE x.1.1 x.1.2).k (by omega)) ?_)
 rintro _ _ ⟨rfl,rfl⟩
 refine ⟨_,_,rfl,cZ,?_⟩
 refine jU 55000001651 ?_;refine jcc (fun h97=>?_) fun h97=>?_
 ·refine jcr ?_;refine jqo (jrdoA 8) ?_;refine jU 1 ?_
  refine jqm (jmst 8 ?_)
  refine jU 51 ?_
  refine jR (jtr (jrt (hres:=res_2 rfl (javA 8) javt) (hv:=?_)))
  rw [show recM kind fs b=(List.replicate fs.length V4.z,(readRec kind fs b).2) by unfold recM;rw [if_pos (by omega)],hM2]
  exact cT (CEnt.agg rfl (fun j hj=>by rcases j with _|_|_|_|_|_|_|_|j <;> first|exact hz _ (by omega)|omega)) cZ
 refine jU 5010067810 ?_;refine jqo (jrdoA 8) ?_
 refine jqe (e_callV rfl rfl (by assumption) (hR x.2 hvl) (.cons (CEnt.agg rfl (fun j hj=>by rcases j with _|_|_|_|_|_|_|_|j <;> first|exact cZ|omega)) .nil) rfl rfl ?_)
 rintro _ _ ⟨rfl,rfl⟩
 refine jU 530 ?_;refine jcc (fun h100=>?_) fun h100=>?_
 rotate_left
 ·refine jU 6810 ?_;refine jqo (jrdoA 8) ?_
  refine jqm (jmst 8 ?_ (hleaf:=(by simpa only [Nat.zero_add] using hlf x.2)))
  refine jU 51 ?_
  refine jR (jrt (hres:=res_2 rfl (javA 8) javt) (hv:=?_))
  rw [show recM kind fs b=(x.2,0) by unfold recM;rw [if_neg (by omega),if_neg (by rw [hM1];simpa using h100),hM1]]
  exact cT (CEnt.agg rfl (fun j hj=>by rcases j with _|_|_|_|_|_|_|_|j <;> first|exact cZ|omega)) CEnt.nil
 refine jcs ?_;refine jcdZ (.rd 0 (.rd 1 (.one 2 (.rd 3 .done)))) ?_;refine jzo (jrdoA 8) ?_;refine jzq (jrde 3) ?_
 refine jzm (jmst 8 ?_)
 refine jU 8700000400000 ?_
 refine jR (jtr (jrt (hres:=res_2 rfl (javA 8) javt) (hv:=?_)))
 rw [show recM kind fs b=(List.replicate fs.length V4.z,4) by unfold recM;rw [if_neg (by omega),if_pos (by rw [hM1];simpa using h100)]]
 exact cT (CEnt.agg rfl (fun j hj=>by rcases j with _|_|_|_|_|_|_|_|j <;> first|exact hz _ (by omega)|omega)) cZ
def casesC:CV:=recC 2 141 142 144
theorem cases_ac {gs:List Nat}:ACp gs Tryz.prog 69 [] casesC:=by
 refine ac_of 2 Tryz.func69 rfl rfl rfl (fun al w0 F0 St0=>?_)
 refine jcr ?_
 refine jqe (jeal (n:=4) zr113 rfl fun p1=>?_)
 refine jU 65 ?_;refine jq (rd_build (n:=4) rfl zr113 pl113 rfl rfl) ?_
 refine jqm (jmst 4 ?_)
 refine jU 5 ?_
 refine jR (jrt (hres:=res_1 rfl (javA 4)) (hv:=CEnt.agg rfl (fun j hj=>by rcases j with _|_|_|_|j <;> first|exact cZ|exact CEnt.fn0|omega)))
set_option maxHeartbeats 2000000 in
theorem recReadAuth_ac {gs:List Nat} [Ok9 gs] {fR fP fG:FuncId} (hcR:calleeB Tryz.prog fR=true) (hcG:calleeB Tryz.prog fG=true) (kind:Int) (hk:KindOk kind) (fs:List Fd) (hfl:fs.length≤8) (hok:∀ f ∈ fs,OkF f) (X:List V4→Nat→CV) (hlf:∀ vs,(List.map (X vs) (List.range 7)).all leafC=true) (hz:∀ j,j<7→CEnt (fl [.c (.int .i64 0),.c (.slice none 0 0),.c (.int .i64 0),.c (.int .i64 0),.c (.int .i64 0),.c (.int .i64 0),.c (.int .i64 0)] j) (X (List.replicate fs.length V4.z) j)) (hR:∀ vs:List V4,vs.length=fs.length→ACp gs Tryz.prog fR [.agg 7 (X vs)] (.c (.bool (rightRec kind fs vs)))) (hG:∀ n l k,0<l.length∧l.length≤1000→muS l k≤100000→AC gs Tryz.prog fG [rdO n l k] [.op 0 (some n) 0] (fun r H'=>r=.agg 7 (X (readFs fs l k).2)∧H'=[rdO n (readFs fs l k).1.1 (readFs fs l k).1.2])) (b:List UInt8) (hb:b.length≤90000) :
  ACp gs Tryz.prog 75 [recC kind fR fP fG,bsC b] (.tup 2 (fl [.agg 7 (X (recM kind fs b).1),.err (recM kind fs b).2])):=by
 have m0:muS [b] (depthM b).2≤100000:=by
  have:sumL [b]=b.length:=by simp [sumL]
  unfold muS
  split <;> omega
 obtain ⟨f1,f2⟩:=read_enter aL rfl [b] (depthM b).2
 have f1':(readR aL [b] (depthM b).2).l=enterL 48 [b] (depthM b).2:=f1
 have f2':(readR aL [b] (depthM b).2).k=(enterR 48 [b] (depthM b).2).k:=f2
 obtain ⟨l1,m1⟩:=read_bd aL (m:=1) ⟨by simp,by simp⟩ m0 (by decide)
 obtain ⟨l2,m2⟩:=read_bd (aK kind) l1 m1 (by show ¬ (4:Int)=2;decide)
 obtain ⟨_,l3⟩:=fields_k fs (k:=(readR (aK kind) (readR aL [b] (depthM b).2).l (readR aL [b] (depthM b).2).k).k) hok l2.1
 have hvl:=readFs_length fs (readR (aK kind) (readR aL [b] (depthM b).2).l (readR aL [b] (depthM b).2).k).l (readR (aK kind) (readR aL [b] (depthM b).2).l (readR aL [b] (depthM b).2).k).k
 generalize hx:readFs fs (readR (aK kind) (readR aL [b] (depthM b).2).l (readR aL [b] (depthM b).2).k).l (readR (aK kind) (readR aL [b] (depthM b).2).l (readR aL [b] (depthM b).2).k).k=x at *
 obtain ⟨f3,f4⟩:=read_leave aE rfl x.1.1 x.1.2
 have l4:0<(readR aE x.1.1 x.1.2).l.length∧(readR aE x.1.1 x.1.2).l.length≤1000:=by
  rw [f3]
  obtain ⟨_,_,v3,v4⟩:=leave_mu (l:=x.1.1) (k:=x.1.2) l3.1
  by_cases h0:leaveK x.1.1 x.1.2=0
  ·have:=v3 h0;omega
  ·rw [v4 h0];omega
 have hM1:(readRec kind fs b).1=x.2:=by unfold readRec;dsimp only;rw [hx]
 have hM2:(readRec kind fs b).2=endK (readR aE x.1.1 x.1.2).l (readR aE x.1.1 x.1.2).k:=by unfold readRec;dsimp only;rw [hx]
 have n1:=now_le m1
 refine ac_of 40 Tryz.func75 rfl rfl rfl (fun al w0 F0 St0=>?_)
 refine jcr ?_
 refine jqe (jebx 4 fun p1=>?_)
 refine jqe (jeal (n:=7) zr52 rfl fun p2=>?_)
 refine jU 651 ?_
 refine jqe (jeal (n:=7) zr52 rfl fun p3=>?_)
 refine jU 165 ?_
 refine jqe (jecS (read08_ac b (by omega)) ?_)
 rintro _ _ ⟨n,rfl,rfl⟩
 refine jU 1651 ?_
 refine jqm (jmcH 3 ((by have h:=enter_ac (gs:=gs) n [b] (depthM b).2 48 (by simp) (by show b.length≤_;omega);rw [← f1',← f2'] at h;exact h)) ?_)
 rintro _ _ ⟨rfl,rfl⟩
 refine ⟨_,_,rfl,cZ,?_⟩
 refine jU 50905090165 ?_
 refine jqm (jmcH 3 (enumR_ac n (readR aL [b] (depthM b).2).l (readR aL [b] (depthM b).2).k kind (by omega) (by omega)) ?_)
 rintro _ _ ⟨rfl,rfl⟩
 refine ⟨_,_,rfl,cZ,?_⟩
 refine jU 150500000065 ?_
 refine jqm (m_callHV1 (i:=3) rfl rfl (by assumption) rfl ((by have h:=hG n (readR (aK kind) (readR aL [b] (depthM b).2).l (readR aL [b] (depthM b).2).k).l (readR (aK kind) (readR aL [b] (depthM b).2).l (readR aL [b] (depthM b).2).k).k (by omega) m2;rw [hx] at h;exact h)) (.cons cP .nil) rfl rfl ?_)
 rintro _ _ ⟨rfl,rfl⟩
 refine ⟨_,rfl,?_⟩
 refine jqe (jeal (n:=7) zr52 rfl fun p6=>?_)
 refine jqm (jmstF 7 (X x.2) ?_ ?_ (hleaf:=hlf _))
 ·exact (fun j hj=>by rcases j with _|_|_|_|_|_|_|j <;> first|exact cZ|omega)
 refine jU 165 ?_
 refine jqm (jmcH 3 ((by have h:=leave_ac (gs:=gs) n x.1.1 x.1.2 (by omega);rw [← f3,← f4] at h;exact h)) ?_)
 rintro _ _ ⟨rfl,rfl⟩
 refine ⟨_,_,rfl,cZ,?_⟩
 refine jU 1675 ?_
 refine jqm (jmcH 3 (end08_ac n (readR aE x.1.1 x.1.2).l (readR aE x.1.1 x.1.2).k (by omega)) ?_)
 rintro _ _ ⟨rfl,rfl⟩
 refine ⟨_,_,rfl,cZ,?_⟩
 refine jU 55000001651 ?_;refine jcc (fun h97=>?_) fun h97=>?_
 ·refine jcr ?_;refine jqo (jrdoA 7) ?_;refine jU 1 ?_
  refine jqm (jmst 7 ?_)
  refine jU 51 ?_
  refine jR (jtr (jrt (hres:=res_2 rfl (javA 7) javt) (hv:=?_)))
  rw [show recM kind fs b=(List.replicate fs.length V4.z,(readRec kind fs b).2) by unfold recM;rw [if_pos (by omega)],hM2]
  exact cT (CEnt.agg rfl (fun j hj=>by rcases j with _|_|_|_|_|_|_|j <;> first|exact hz _ (by omega)|omega)) cZ
 refine jU 5010067810 ?_;refine jqo (jrdoA 7) ?_
 refine jqe (e_callV rfl rfl (by assumption) (hR x.2 hvl) (.cons (CEnt.agg rfl (fun j hj=>by rcases j with _|_|_|_|_|_|_|j <;> first|exact cZ|omega)) .nil) rfl rfl ?_)
 rintro _ _ ⟨rfl,rfl⟩
 refine jU 530 ?_;refine jcc (fun h100=>?_) fun h100=>?_
 rotate_left
 ·refine jU 6810 ?_;refine jqo (jrdoA 7) ?_
  refine jqm (jmst 7 ?_ (hleaf:=(by simpa only [Nat.zero_add] using hlf x.2)))
  refine jU 51 ?_
  refine jR (jrt (hres:=res_2 rfl (javA 7) javt) (hv:=?_))
  rw [show recM kind fs b=(x.2,0) by unfold recM;rw [if_neg (by omega),if_neg (by rw [hM1];simpa using h100),hM1]]
  exact cT (CEnt.agg rfl (fun j hj=>by rcases j with _|_|_|_|_|_|_|j <;> first|exact cZ|omega)) CEnt.nil
 refine jcs ?_;refine jcdZ (.rd 0 (.rd 1 (.one 2 (.rd 3 .done)))) ?_;refine jzo (jrdoA 7) ?_;refine jzq (jrde 3) ?_
 refine jzm (jmst 7 ?_)
 refine jU 8700000400000 ?_
 refine jR (jtr (jrt (hres:=res_2 rfl (javA 7) javt) (hv:=?_)))
 rw [show recM kind fs b=(List.replicate fs.length V4.z,4) by unfold recM;rw [if_neg (by omega),if_pos (by rw [hM1];simpa using h100)]]
 exact cT (CEnt.agg rfl (fun j hj=>by rcases j with _|_|_|_|_|_|_|j <;> first|exact hz _ (by omega)|omega)) cZ
def authoritiesC:CV:=recC 3 147 148 149
theorem authorities_ac {gs:List Nat}:ACp gs Tryz.prog 73 [] authoritiesC:=by
 refine ac_of 2 Tryz.func73 rfl rfl rfl (fun al w0 F0 St0=>?_)
 refine jcr ?_
 refine jqe (jeal (n:=4) zr124 rfl fun p1=>?_)
 refine jU 65 ?_;refine jq (rd_build (n:=4) rfl zr124 pl124 rfl rfl) ?_
 refine jqm (jmst 4 ?_)
 refine jU 5 ?_
 refine jR (jrt (hres:=res_1 rfl (javA 4)) (hv:=CEnt.agg rfl (fun j hj=>by rcases j with _|_|_|_|j <;> first|exact cZ|exact CEnt.fn0|omega)))
theorem recBytesMark_ac {gs:List Nat} [Ok9 gs] {fR fP fG:FuncId} (hcR:calleeB Tryz.prog fR=true) (hcP:calleeB Tryz.prog fP=true) (kind:Int) (hk:KindOk kind) (X:Nat→CV) (rb:Bool) (s2:W8) (hR:ACp gs Tryz.prog fR [.agg 4 X] (.c (.bool rb))) (hP:rb=true→∀ n,AC gs Tryz.prog fP [wrO n (doW (vE kind) (doW (w1 48) w00))] [.op 0 (some n) 0,.agg 4 X] (fun r H'=>r=.c (.tuple #[])∧H'=[wrO n s2])) (h2:rb=true→OkW s2) (h3:rb=true→OkW (closeV s2)) :
  ACp gs Tryz.prog 91 [recC kind fR fP fG,.agg 4 X] (.tup 2 (fl [bsC (if rb=true then doneB (closeV s2) else []),.err (if rb=true then doneK (closeV s2) else 4)])):=by
 have I0:=inv_rec0 hk
 have I1:=inv_do inv_00 (small_w1 (t:=48) (by decide))
 refine ac_of 32 Tryz.func91 rfl rfl rfl (fun al w0 F0 St0=>?_)
 refine jcr ?_
 refine jqe (jebx 4 fun p1=>?_)
 refine jqe (jebx 4 fun p2=>?_)
 refine jU 5010067511 ?_;refine jqo (jrdoA 4) ?_
 refine jqe (e_callV rfl rfl (by assumption) (hR) (.cons (CEnt.agg rfl (fun j hj=>by rcases j with _|_|_|_|j <;> first|exact cZ|omega)) .nil) rfl rfl ?_)
 rintro _ _ ⟨rfl,rfl⟩
 refine jU 530 ?_;refine jcc (fun h78=>?_) fun h78=>?_
 ·refine jcs ?_;refine jcd (.rd 0 (.rd 1 (.rd 2 .done))) ?_;refine jU 88070704000000 ?_
  refine jR (jtr (jrt (hv:=?_)))
  have hrb:rb=false:=by simpa using h78
  rw [hrb,if_neg (by decide),if_neg (by decide)]
  exact cT cN cZ
 refine jU 810 ?_
 have hrb:rb=true:=by simpa using h78
 rw [if_pos hrb,if_pos hrb]
 refine jcr ?_;refine jq (rd_build (n:=3) rfl zr95 pl95 rfl rfl) ?_
 refine jqe (jebx 3 fun p3=>?_)
 refine jU 51 ?_;refine code_knowG (know_op 14 rfl) fun hn=>?_
 obtain ⟨n,rfl⟩:=hn
 refine jE (newW n 2 rfl cZ cZ CEnt.nil) ?_
 dsimp only [List.set_cons_zero,List.set_cons_succ,List.cons_append,List.nil_append,List.length_cons,List.length_nil,Nat.zero_add,Nat.reduceAdd]
 refine jU 16 ?_
 refine jqm (jmcH 2 ((by have h:=openW_ac (gs:=gs) n w00 48 ok0;rw [← do_w1] at h;exact h)) ?_)
 rintro _ _ ⟨rfl,rfl⟩
 refine ⟨_,_,rfl,cZ,?_⟩
 refine jU 5090165 ?_
 refine jqm (jmcH 2 ((by have h:=enumW_ac (gs:=gs) n (doW (w1 48) w00) kind (by unfold KindOk at hk;omega) (inv_okW I1 (by decide));rw [← do_vE] at h;exact h)) ?_)
 rintro _ _ ⟨rfl,rfl⟩
 refine ⟨_,_,rfl,cZ,?_⟩
 refine jU 150100065 ?_;refine jqo (jrdoA 4) ?_
 refine jqm (m_callHV1 (i:=2) rfl rfl (by assumption) rfl (hP hrb n) (.cons cP (.cons (CEnt.agg rfl (fun j hj=>by rcases j with _|_|_|_|j <;> first|exact cZ|omega)) .nil)) rfl rfl ?_)
 rintro _ _ ⟨rfl,rfl⟩
 refine ⟨_,rfl,?_⟩
 refine jU 165 ?_
 refine jqm (jmcH 2 (closeW_ac n s2 (h2 hrb)) ?_)
 rintro _ _ ⟨rfl,rfl⟩
 refine ⟨_,_,rfl,cZ,?_⟩
 refine jU 165 ?_
 refine jqm (jmcH 2 (doneW_ac n (closeV s2) (h3 hrb)) ?_)
 rintro _ _ ⟨rfl,rfl⟩
 refine ⟨_,_,rfl,cZ,?_⟩
 refine jU 511900900 ?_
 refine jR (jrt (hv:=cZ))
set_option maxHeartbeats 2000000 in
theorem recReadMark_ac {gs:List Nat} [Ok9 gs] {fR fP fG:FuncId} (hcR:calleeB Tryz.prog fR=true) (hcG:calleeB Tryz.prog fG=true) (kind:Int) (hk:KindOk kind) (fs:List Fd) (hfl:fs.length≤8) (hok:∀ f ∈ fs,OkF f) (X:List V4→Nat→CV) (hlf:∀ vs,(List.map (X vs) (List.range 4)).all leafC=true) (hz:∀ j,j<4→CEnt (fl [.c (.int .i64 0),.c (.int .i64 0),.c (.int .i64 0),.c (.int .i64 0)] j) (X (List.replicate fs.length V4.z) j)) (hR:∀ vs:List V4,vs.length=fs.length→ACp gs Tryz.prog fR [.agg 4 (X vs)] (.c (.bool (rightRec kind fs vs)))) (hG:∀ n l k,0<l.length∧l.length≤1000→muS l k≤100000→AC gs Tryz.prog fG [rdO n l k] [.op 0 (some n) 0] (fun r H'=>r=.agg 4 (X (readFs fs l k).2)∧H'=[rdO n (readFs fs l k).1.1 (readFs fs l k).1.2])) (b:List UInt8) (hb:b.length≤90000) :
  ACp gs Tryz.prog 94 [recC kind fR fP fG,bsC b] (.tup 2 (fl [.agg 4 (X (recM kind fs b).1),.err (recM kind fs b).2])):=by
 have m0:muS [b] (depthM b).2≤100000:=by
  have:sumL [b]=b.length:=by simp [sumL]
  unfold muS
  split <;> omega
 obtain ⟨f1,f2⟩:=read_enter aL rfl [b] (depthM b).2
 have f1':(readR aL [b] (depthM b).2).l=enterL 48 [b] (depthM b).2:=f1
 have f2':(readR aL [b] (depthM b).2).k=(enterR 48 [b] (depthM b).2).k:=f2
 obtain ⟨l1,m1⟩:=read_bd aL (m:=1) ⟨by simp,by simp⟩ m0 (by decide)
 obtain ⟨l2,m2⟩:=read_bd (aK kind) l1 m1 (by show ¬ (4:Int)=2;decide)
 obtain ⟨_,l3⟩:=fields_k fs (k:=(readR (aK kind) (readR aL [b] (depthM b).2).l (readR aL [b] (depthM b).2).k).k) hok l2.1
 have hvl:=readFs_length fs (readR (aK kind) (readR aL [b] (depthM b).2).l (readR aL [b] (depthM b).2).k).l (readR (aK kind) (readR aL [b] (depthM b).2).l (readR aL [b] (depthM b).2).k).k
 generalize hx:readFs fs (readR (aK kind) (readR aL [b] (depthM b).2).l (readR aL [b] (depthM b).2).k).l (readR (aK kind) (readR aL [b] (depthM b).2).l (readR aL [b] (depthM b).2).k).k=x at *
 obtain ⟨f3,f4⟩:=read_leave aE rfl x.1.1 x.1.2
 have l4:0<(readR aE x.1.1 x.1.2).l.length∧(readR aE x.1.1 x.1.2).l.length≤1000:=by
  rw [f3]
  obtain ⟨_,_,v3,v4⟩:=leave_mu (l:=x.1.1) (k:=x.1.2) l3.1
  by_cases h0:leaveK x.1.1 x.1.2=0
  ·have:=v3 h0;omega
  ·rw [v4 h0];omega
 have hM1:(readRec kind fs b).1=x.2:=by unfold readRec;dsimp only;rw [hx]
 have hM2:(readRec kind fs b).2=endK (readR aE x.1.1 x.1.2).l (readR aE x.1.1 x.1.2).k:=by unfold readRec;dsimp only;rw [hx]
 have n1:=now_le m1
 refine ac_of 40 Tryz.func94 rfl rfl rfl (fun al w0 F0 St0=>?_)
 refine jcr ?_
 refine jqe (jebx 4 fun p1=>?_)
 refine jqe (jeal (n:=4) zr67 rfl fun p2=>?_)
 refine jU 651 ?_
 refine jqe (jeal (n:=4) zr67 rfl fun p3=>?_)
 refine jU 165 ?_
 refine jqe (jecS (read08_ac b (by omega)) ?_)
 rintro _ _ ⟨n,rfl,rfl⟩
 refine jU 1651 ?_
 refine jqm (jmcH 3 ((by have h:=enter_ac (gs:=gs) n [b] (depthM b).2 48 (by simp) (by show b.length≤_;omega);rw [← f1',← f2'] at h;exact h)) ?_)
 rintro _ _ ⟨rfl,rfl⟩
 refine ⟨_,_,rfl,cZ,?_⟩
 refine jU 50905090165 ?_
 refine jqm (jmcH 3 (enumR_ac n (readR aL [b] (depthM b).2).l (readR aL [b] (depthM b).2).k kind (by omega) (by omega)) ?_)
 rintro _ _ ⟨rfl,rfl⟩
 refine ⟨_,_,rfl,cZ,?_⟩
 refine jU 150500000065 ?_
 refine jqm (m_callHV1 (i:=3) rfl rfl (by assumption) rfl ((by have h:=hG n (readR (aK kind) (readR aL [b] (depthM b).2).l (readR aL [b] (depthM b).2).k).l (readR (aK kind) (readR aL [b] (depthM b).2).l (readR aL [b] (depthM b).2).k).k (by omega) m2;rw [hx] at h;exact h)) (.cons cP .nil) rfl rfl ?_)
 rintro _ _ ⟨rfl,rfl⟩
 refine ⟨_,rfl,?_⟩
 refine jqe (jeal (n:=4) zr67 rfl fun p6=>?_)
 refine jqm (jmstF 4 (X x.2) ?_ ?_ (hleaf:=hlf _))
 ·exact (fun j hj=>by rcases j with _|_|_|_|j <;> first|exact cZ|omega)
 refine jU 165 ?_
 refine jqm (jmcH 3 ((by have h:=leave_ac (gs:=gs) n x.1.1 x.1.2 (by omega);rw [← f3,← f4] at h;exact h)) ?_)
 rintro _ _ ⟨rfl,rfl⟩
 refine ⟨_,_,rfl,cZ,?_⟩
 refine jU 1675 ?_
 refine jqm (jmcH 3 (end08_ac n (readR aE x.1.1 x.1.2).l (readR aE x.1.1 x.1.2).k (by omega)) ?_)
 rintro _ _ ⟨rfl,rfl⟩
 refine ⟨_,_,rfl,cZ,?_⟩
 refine jU 55000001651 ?_;refine jcc (fun h97=>?_) fun h97=>?_
 ·refine jcr ?_;refine jqo (jrdoA 4) ?_;refine jU 1 ?_
  refine jqm (jmst 4 ?_)
  refine jU 51 ?_
  refine jR (jtr (jrt (hres:=res_2 rfl (javA 4) javt) (hv:=?_)))
  rw [show recM kind fs b=(List.replicate fs.length V4.z,(readRec kind fs b).2) by unfold recM;rw [if_pos (by omega)],hM2]
  exact cT (CEnt.agg rfl (fun j hj=>by rcases j with _|_|_|_|j <;> first|exact hz _ (by omega)|omega)) cZ
 refine jU 5010067810 ?_;refine jqo (jrdoA 4) ?_
 refine jqe (e_callV rfl rfl (by assumption) (hR x.2 hvl) (.cons (CEnt.agg rfl (fun j hj=>by rcases j with _|_|_|_|j <;> first|exact cZ|omega)) .nil) rfl rfl ?_)
 rintro _ _ ⟨rfl,rfl⟩
 refine jU 530 ?_;refine jcc (fun h100=>?_) fun h100=>?_
 rotate_left
 ·refine jU 6810 ?_;refine jqo (jrdoA 4) ?_
  refine jqm (jmst 4 ?_ (hleaf:=(by simpa only [Nat.zero_add] using hlf x.2)))
  refine jU 51 ?_
  refine jR (jrt (hres:=res_2 rfl (javA 4) javt) (hv:=?_))
  rw [show recM kind fs b=(x.2,0) by unfold recM;rw [if_neg (by omega),if_neg (by rw [hM1];simpa using h100),hM1]]
  exact cT (CEnt.agg rfl (fun j hj=>by rcases j with _|_|_|_|j <;> first|exact cZ|omega)) CEnt.nil
 refine jcs ?_;refine jcdZ (.rd 0 (.rd 1 (.one 2 (.rd 3 .done)))) ?_;refine jzo (jrdoA 4) ?_;refine jzq (jrde 3) ?_
 refine jzm (jmst 4 ?_)
 refine jU 8700000400000 ?_
 refine jR (jtr (jrt (hres:=res_2 rfl (javA 4) javt) (hv:=?_)))
 rw [show recM kind fs b=(List.replicate fs.length V4.z,4) by unfold recM;rw [if_neg (by omega),if_pos (by rw [hM1];simpa using h100)]]
 exact cT (CEnt.agg rfl (fun j hj=>by rcases j with _|_|_|_|j <;> first|exact hz _ (by omega)|omega)) cZ
def marksC:CV:=recC 4 159 160 161
theorem marks_ac {gs:List Nat}:ACp gs Tryz.prog 85 [] marksC:=by
 refine ac_of 2 Tryz.func85 rfl rfl rfl (fun al w0 F0 St0=>?_)
 refine jcr ?_
 refine jqe (jeal (n:=4) zr149 rfl fun p1=>?_)
 refine jU 65 ?_;refine jq (rd_build (n:=4) rfl zr149 pl149 rfl rfl) ?_
 refine jqm (jmst 4 ?_)
 refine jU 5 ?_
 refine jR (jrt (hres:=res_1 rfl (javA 4)) (hv:=CEnt.agg rfl (fun j hj=>by rcases j with _|_|_|_|j <;> first|exact cZ|exact CEnt.fn0|omega)))
theorem recBytesTick_ac {gs:List Nat} [Ok9 gs] {fR fP fG:FuncId} (hcR:calleeB Tryz.prog fR=true) (hcP:calleeB Tryz.prog fP=true) (kind:Int) (hk:KindOk kind) (X:Nat→CV) (rb:Bool) (s2:W8) (hR:ACp gs Tryz.prog fR [.agg 3 X] (.c (.bool rb))) (hP:rb=true→∀ n,AC gs Tryz.prog fP [wrO n (doW (vE kind) (doW (w1 48) w00))] [.op 0 (some n) 0,.agg 3 X] (fun r H'=>r=.c (.tuple #[])∧H'=[wrO n s2])) (h2:rb=true→OkW s2) (h3:rb=true→OkW (closeV s2)) :
  ACp gs Tryz.prog 92 [recC kind fR fP fG,.agg 3 X] (.tup 2 (fl [bsC (if rb=true then doneB (closeV s2) else []),.err (if rb=true then doneK (closeV s2) else 4)])):=by
 have I0:=inv_rec0 hk
 have I1:=inv_do inv_00 (small_w1 (t:=48) (by decide))
 refine ac_of 32 Tryz.func92 rfl rfl rfl (fun al w0 F0 St0=>?_)
 refine jcr ?_
 refine jqe (jebx 4 fun p1=>?_)
 refine jqe (jebx 3 fun p2=>?_)
 refine jU 5010067511 ?_;refine jqo (jrdoA 3) ?_
 refine jqe (e_callV rfl rfl (by assumption) (hR) (.cons (CEnt.agg rfl (fun j hj=>by rcases j with _|_|_|j <;> first|exact cZ|omega)) .nil) rfl rfl ?_)
 rintro _ _ ⟨rfl,rfl⟩
 refine jU 530 ?_;refine jcc (fun h78=>?_) fun h78=>?_
 ·refine jcs ?_;refine jcd (.rd 0 (.rd 1 (.rd 2 .done))) ?_;refine jU 88070704000000 ?_
  refine jR (jtr (jrt (hv:=?_)))
  have hrb:rb=false:=by simpa using h78
  rw [hrb,if_neg (by decide),if_neg (by decide)]
  exact cT cN cZ
 refine jU 810 ?_
 have hrb:rb=true:=by simpa using h78
 rw [if_pos hrb,if_pos hrb]
 refine jcr ?_;refine jq (rd_build (n:=3) rfl zr95 pl95 rfl rfl) ?_
 refine jqe (jebx 3 fun p3=>?_)
 refine jU 51 ?_;refine code_knowG (know_op 14 rfl) fun hn=>?_
 obtain ⟨n,rfl⟩:=hn
 refine jE (newW n 2 rfl cZ cZ CEnt.nil) ?_
 dsimp only [List.set_cons_zero,List.set_cons_succ,List.cons_append,List.nil_append,List.length_cons,List.length_nil,Nat.zero_add,Nat.reduceAdd]
 refine jU 16 ?_
 refine jqm (jmcH 2 ((by have h:=openW_ac (gs:=gs) n w00 48 ok0;rw [← do_w1] at h;exact h)) ?_)
 rintro _ _ ⟨rfl,rfl⟩
 refine ⟨_,_,rfl,cZ,?_⟩
 refine jU 5090165 ?_
 refine jqm (jmcH 2 ((by have h:=enumW_ac (gs:=gs) n (doW (w1 48) w00) kind (by unfold KindOk at hk;omega) (inv_okW I1 (by decide));rw [← do_vE] at h;exact h)) ?_)
 rintro _ _ ⟨rfl,rfl⟩
 refine ⟨_,_,rfl,cZ,?_⟩
 refine jU 150100065 ?_;refine jqo (jrdoA 3) ?_
 refine jqm (m_callHV1 (i:=2) rfl rfl (by assumption) rfl (hP hrb n) (.cons cP (.cons (CEnt.agg rfl (fun j hj=>by rcases j with _|_|_|j <;> first|exact cZ|omega)) .nil)) rfl rfl ?_)
 rintro _ _ ⟨rfl,rfl⟩
 refine ⟨_,rfl,?_⟩
 refine jU 165 ?_
 refine jqm (jmcH 2 (closeW_ac n s2 (h2 hrb)) ?_)
 rintro _ _ ⟨rfl,rfl⟩
 refine ⟨_,_,rfl,cZ,?_⟩
 refine jU 165 ?_
 refine jqm (jmcH 2 (doneW_ac n (closeV s2) (h3 hrb)) ?_)
 rintro _ _ ⟨rfl,rfl⟩
 refine ⟨_,_,rfl,cZ,?_⟩
 refine jU 511900900 ?_
 refine jR (jrt (hv:=cZ))
set_option maxHeartbeats 2000000 in
theorem recReadTick_ac {gs:List Nat} [Ok9 gs] {fR fP fG:FuncId} (hcR:calleeB Tryz.prog fR=true) (hcG:calleeB Tryz.prog fG=true) (kind:Int) (hk:KindOk kind) (fs:List Fd) (hfl:fs.length≤8) (hok:∀ f ∈ fs,OkF f) (X:List V4→Nat→CV) (hlf:∀ vs,(List.map (X vs) (List.range 3)).all leafC=true) (hz:∀ j,j<3→CEnt (fl [strC [],.c (.slice none 0 0),.c (.int .i64 0)] j) (X (List.replicate fs.length V4.z) j)) (hR:∀ vs:List V4,vs.length=fs.length→ACp gs Tryz.prog fR [.agg 3 (X vs)] (.c (.bool (rightRec kind fs vs)))) (hG:∀ n l k,0<l.length∧l.length≤1000→muS l k≤100000→AC gs Tryz.prog fG [rdO n l k] [.op 0 (some n) 0] (fun r H'=>r=.agg 3 (X (readFs fs l k).2)∧H'=[rdO n (readFs fs l k).1.1 (readFs fs l k).1.2])) (b:List UInt8) (hb:b.length≤90000) :
  ACp gs Tryz.prog 95 [recC kind fR fP fG,bsC b] (.tup 2 (fl [.agg 3 (X (recM kind fs b).1),.err (recM kind fs b).2])):=by
 have m0:muS [b] (depthM b).2≤100000:=by
  have:sumL [b]=b.length:=by simp [sumL]
  unfold muS
  split <;> omega
 obtain ⟨f1,f2⟩:=read_enter aL rfl [b] (depthM b).2
 have f1':(readR aL [b] (depthM b).2).l=enterL 48 [b] (depthM b).2:=f1
 have f2':(readR aL [b] (depthM b).2).k=(enterR 48 [b] (depthM b).2).k:=f2
 obtain ⟨l1,m1⟩:=read_bd aL (m:=1) ⟨by simp,by simp⟩ m0 (by decide)
 obtain ⟨l2,m2⟩:=read_bd (aK kind) l1 m1 (by show ¬ (4:Int)=2;decide)
 obtain ⟨_,l3⟩:=fields_k fs (k:=(readR (aK kind) (readR aL [b] (depthM b).2).l (readR aL [b] (depthM b).2).k).k) hok l2.1
 have hvl:=readFs_length fs (readR (aK kind) (readR aL [b] (depthM b).2).l (readR aL [b] (depthM b).2).k).l (readR (aK kind) (readR aL [b] (depthM b).2).l (readR aL [b] (depthM b).2).k).k
 generalize hx:readFs fs (readR (aK kind) (readR aL [b] (depthM b).2).l (readR aL [b] (depthM b).2).k).l (readR (aK kind) (readR aL [b] (depthM b).2).l (readR aL [b] (depthM b).2).k).k=x at *
 obtain ⟨f3,f4⟩:=read_leave aE rfl x.1.1 x.1.2
 have l4:0<(readR aE x.1.1 x.1.2).l.length∧(readR aE x.1.1 x.1.2).l.length≤1000:=by
  rw [f3]
  obtain ⟨_,_,v3,v4⟩:=leave_mu (l:=x.1.1) (k:=x.1.2) l3.1
  by_cases h0:leaveK x.1.1 x.1.2=0
  ·have:=v3 h0;omega
  ·rw [v4 h0];omega
 have hM1:(readRec kind fs b).1=x.2:=by unfold readRec;dsimp only;rw [hx]
 have hM2:(readRec kind fs b).2=endK (readR aE x.1.1 x.1.2).l (readR aE x.1.1 x.1.2).k:=by unfold readRec;dsimp only;rw [hx]
 have n1:=now_le m1
 refine ac_of 40 Tryz.func95 rfl rfl rfl (fun al w0 F0 St0=>?_)
 refine jcr ?_
 refine jqe (jebx 4 fun p1=>?_)
 refine jqe (jeal (n:=3) zr69 rfl fun p2=>?_)
 refine jU 651 ?_
 refine jqe (jeal (n:=3) zr69 rfl fun p3=>?_)
 refine jU 165 ?_
 refine jqe (jecS (read08_ac b (by omega)) ?_)
 rintro _ _ ⟨n,rfl,rfl⟩
 refine jU 1651 ?_
 refine jqm (jmcH 3 ((by have h:=enter_ac (gs:=gs) n [b] (depthM b).2 48 (by simp) (by show b.length≤_;omega);rw [← f1',← f2'] at h;exact h)) ?_)
 rintro _ _ ⟨rfl,rfl⟩
 refine ⟨_,_,rfl,cZ,?_⟩
 refine jU 50905090165 ?_
 refine jqm (jmcH 3 (enumR_ac n (readR aL [b] (depthM b).2).l (readR aL [b] (depthM b).2).k kind (by omega) (by omega)) ?_)
 rintro _ _ ⟨rfl,rfl⟩
 refine ⟨_,_,rfl,cZ,?_⟩
 refine jU 150500000065 ?_
 refine jqm (m_callHV1 (i:=3) rfl rfl (by assumption) rfl ((by have h:=hG n (readR (aK kind) (readR aL [b] (depthM b).2).l (readR aL [b] (depthM b).2).k).l (readR (aK kind) (readR aL [b] (depthM b).2).l (readR aL [b] (depthM b).2).k).k (by omega) m2;rw [hx] at h;exact h)) (.cons cP .nil) rfl rfl ?_)
 rintro _ _ ⟨rfl,rfl⟩
 refine ⟨_,rfl,?_⟩
 refine jqe (jeal (n:=3) zr69 rfl fun p6=>?_)
 refine jqm (jmstF 3 (X x.2) ?_ ?_ (hleaf:=hlf _))
 ·exact (fun j hj=>by rcases j with _|_|_|j <;> first|exact cZ|omega)
 refine jU 165 ?_
 refine jqm (jmcH 3 ((by have h:=leave_ac (gs:=gs) n x.1.1 x.1.2 (by omega);rw [← f3,← f4] at h;exact h)) ?_)
 rintro _ _ ⟨rfl,rfl⟩
 refine ⟨_,_,rfl,cZ,?_⟩
 refine jU 1675 ?_
 refine jqm (jmcH 3 (end08_ac n (readR aE x.1.1 x.1.2).l (readR aE x.1.1 x.1.2).k (by omega)) ?_)
 rintro _ _ ⟨rfl,rfl⟩
 refine ⟨_,_,rfl,cZ,?_⟩
 refine jU 55000001651 ?_;refine jcc (fun h97=>?_) fun h97=>?_
 ·refine jcr ?_;refine jqo (jrdoA 3) ?_;refine jU 1 ?_
  refine jqm (jmst 3 ?_)
  refine jU 51 ?_
  refine jR (jtr (jrt (hres:=res_2 rfl (javA 3) javt) (hv:=?_)))
  rw [show recM kind fs b=(List.replicate fs.length V4.z,(readRec kind fs b).2) by unfold recM;rw [if_pos (by omega)],hM2]
  exact cT (CEnt.agg rfl (fun j hj=>by rcases j with _|_|_|j <;> first|exact hz _ (by omega)|omega)) cZ
 refine jU 5010067810 ?_;refine jqo (jrdoA 3) ?_
 refine jqe (e_callV rfl rfl (by assumption) (hR x.2 hvl) (.cons (CEnt.agg rfl (fun j hj=>by rcases j with _|_|_|j <;> first|exact cZ|omega)) .nil) rfl rfl ?_)
 rintro _ _ ⟨rfl,rfl⟩
 refine jU 530 ?_;refine jcc (fun h100=>?_) fun h100=>?_
 rotate_left
 ·refine jU 6810 ?_;refine jqo (jrdoA 3) ?_
  refine jqm (jmst 3 ?_ (hleaf:=(by simpa only [Nat.zero_add] using hlf x.2)))
  refine jU 51 ?_
  refine jR (jrt (hres:=res_2 rfl (javA 3) javt) (hv:=?_))
  rw [show recM kind fs b=(x.2,0) by unfold recM;rw [if_neg (by omega),if_neg (by rw [hM1];simpa using h100),hM1]]
  exact cT (CEnt.agg rfl (fun j hj=>by rcases j with _|_|_|j <;> first|exact cZ|omega)) CEnt.nil
 refine jcs ?_;refine jcdZ (.rd 0 (.rd 1 (.one 2 (.rd 3 .done)))) ?_;refine jzo (jrdoA 3) ?_;refine jzq (jrde 3) ?_
 refine jzm (jmst 3 ?_)
 refine jU 8700000400000 ?_
 refine jR (jtr (jrt (hres:=res_2 rfl (javA 3) javt) (hv:=?_)))
 rw [show recM kind fs b=(List.replicate fs.length V4.z,4) by unfold recM;rw [if_neg (by omega),if_pos (by rw [hM1];simpa using h100)]]
 exact cT (CEnt.agg rfl (fun j hj=>by rcases j with _|_|_|j <;> first|exact hz _ (by omega)|omega)) cZ
def ticketsC:CV:=recC 7 162 163 164
theorem tickets_ac {gs:List Nat}:ACp gs Tryz.prog 87 [] ticketsC:=by
 refine ac_of 2 Tryz.func87 rfl rfl rfl (fun al w0 F0 St0=>?_)
 refine jcr ?_
 refine jqe (jeal (n:=4) zr155 rfl fun p1=>?_)
 refine jU 65 ?_;refine jq (rd_build (n:=4) rfl zr155 pl155 rfl rfl) ?_
 refine jqm (jmst 4 ?_)
 refine jU 5 ?_
 refine jR (jrt (hres:=res_1 rfl (javA 4)) (hv:=CEnt.agg rfl (fun j hj=>by rcases j with _|_|_|_|j <;> first|exact cZ|exact CEnt.fn0|omega)))
theorem recBytesIss_ac {gs:List Nat} [Ok9 gs] {fR fP fG:FuncId} (hcR:calleeB Tryz.prog fR=true) (hcP:calleeB Tryz.prog fP=true) (kind:Int) (hk:KindOk kind) (X:Nat→CV) (rb:Bool) (s2:W8) (hR:ACp gs Tryz.prog fR [.agg 2 X] (.c (.bool rb))) (hP:rb=true→∀ n,AC gs Tryz.prog fP [wrO n (doW (vE kind) (doW (w1 48) w00))] [.op 0 (some n) 0,.agg 2 X] (fun r H'=>r=.c (.tuple #[])∧H'=[wrO n s2])) (h2:rb=true→OkW s2) (h3:rb=true→OkW (closeV s2)) :
  ACp gs Tryz.prog 93 [recC kind fR fP fG,.agg 2 X] (.tup 2 (fl [bsC (if rb=true then doneB (closeV s2) else []),.err (if rb=true then doneK (closeV s2) else 4)])):=by
 have I0:=inv_rec0 hk
 have I1:=inv_do inv_00 (small_w1 (t:=48) (by decide))
 refine ac_of 32 Tryz.func93 rfl rfl rfl (fun al w0 F0 St0=>?_)
 refine jcr ?_
 refine jqe (jebx 4 fun p1=>?_)
 refine jqe (jebx 2 fun p2=>?_)
 refine jU 5010067511 ?_;refine jqo (jrdoA 2) ?_
 refine jqe (e_callV rfl rfl (by assumption) (hR) (.cons (CEnt.agg rfl (fun j hj=>by rcases j with _|_|j <;> first|exact cZ|omega)) .nil) rfl rfl ?_)
 rintro _ _ ⟨rfl,rfl⟩
 refine jU 530 ?_;refine jcc (fun h78=>?_) fun h78=>?_
 ·refine jcs ?_;refine jcd (.rd 0 (.rd 1 (.rd 2 .done))) ?_;refine jU 88070704000000 ?_
  refine jR (jtr (jrt (hv:=?_)))
  have hrb:rb=false:=by simpa using h78
  rw [hrb,if_neg (by decide),if_neg (by decide)]
  exact cT cN cZ
 refine jU 810 ?_
 have hrb:rb=true:=by simpa using h78
 rw [if_pos hrb,if_pos hrb]
 refine jcr ?_;refine jq (rd_build (n:=3) rfl zr95 pl95 rfl rfl) ?_
 refine jqe (jebx 3 fun p3=>?_)
 refine jU 51 ?_;refine code_knowG (know_op 14 rfl) fun hn=>?_
 obtain ⟨n,rfl⟩:=hn
 refine jE (newW n 2 rfl cZ cZ CEnt.nil) ?_
 dsimp only [List.set_cons_zero,List.set_cons_succ,List.cons_append,List.nil_append,List.length_cons,List.length_nil,Nat.zero_add,Nat.reduceAdd]
 refine jU 16 ?_
 refine jqm (jmcH 2 ((by have h:=openW_ac (gs:=gs) n w00 48 ok0;rw [← do_w1] at h;exact h)) ?_)
 rintro _ _ ⟨rfl,rfl⟩
 refine ⟨_,_,rfl,cZ,?_⟩
 refine jU 5090165 ?_
 refine jqm (jmcH 2 ((by have h:=enumW_ac (gs:=gs) n (doW (w1 48) w00) kind (by unfold KindOk at hk;omega) (inv_okW I1 (by decide));rw [← do_vE] at h;exact h)) ?_)
 rintro _ _ ⟨rfl,rfl⟩
 refine ⟨_,_,rfl,cZ,?_⟩
 refine jU 150100065 ?_;refine jqo (jrdoA 2) ?_
 refine jqm (m_callHV1 (i:=2) rfl rfl (by assumption) rfl (hP hrb n) (.cons cP (.cons (CEnt.agg rfl (fun j hj=>by rcases j with _|_|j <;> first|exact cZ|omega)) .nil)) rfl rfl ?_)
 rintro _ _ ⟨rfl,rfl⟩
 refine ⟨_,rfl,?_⟩
 refine jU 165 ?_
 refine jqm (jmcH 2 (closeW_ac n s2 (h2 hrb)) ?_)
 rintro _ _ ⟨rfl,rfl⟩
 refine ⟨_,_,rfl,cZ,?_⟩
 refine jU 165 ?_
 refine jqm (jmcH 2 (doneW_ac n (closeV s2) (h3 hrb)) ?_)
 rintro _ _ ⟨rfl,rfl⟩
 refine ⟨_,_,rfl,cZ,?_⟩
 refine jU 511900900 ?_
 refine jR (jrt (hv:=cZ))
set_option maxHeartbeats 2000000 in
theorem recReadIss_ac {gs:List Nat} [Ok9 gs] {fR fP fG:FuncId} (hcR:calleeB Tryz.prog fR=true) (hcG:calleeB Tryz.prog fG=true) (kind:Int) (hk:KindOk kind) (fs:List Fd) (hfl:fs.length≤8) (hok:∀ f ∈ fs,OkF f) (X:List V4→Nat→CV) (hlf:∀ vs,(List.map (X vs) (List.range 2)).all leafC=true) (hz:∀ j,j<2→CEnt (fl [.c (.slice none 0 0),.c (.slice none 0 0)] j) (X (List.replicate fs.length V4.z) j)) (hR:∀ vs:List V4,vs.length=fs.length→ACp gs Tryz.prog fR [.agg 2 (X vs)] (.c (.bool (rightRec kind fs vs)))) (hG:∀ n l k,0<l.length∧l.length≤1000→muS l k≤100000→AC gs Tryz.prog fG [rdO n l k] [.op 0 (some n) 0] (fun r H'=>r=.agg 2 (X (readFs fs l k).2)∧H'=[rdO n (readFs fs l k).1.1 (readFs fs l k).1.2])) (b:List UInt8) (hb:b.length≤90000) :
  ACp gs Tryz.prog 96 [recC kind fR fP fG,bsC b] (.tup 2 (fl [.agg 2 (X (recM kind fs b).1),.err (recM kind fs b).2])):=by
 have m0:muS [b] (depthM b).2≤100000:=by
  have:sumL [b]=b.length:=by simp [sumL]
  unfold muS
  split <;> omega
 obtain ⟨f1,f2⟩:=read_enter aL rfl [b] (depthM b).2
 have f1':(readR aL [b] (depthM b).2).l=enterL 48 [b] (depthM b).2:=f1
 have f2':(readR aL [b] (depthM b).2).k=(enterR 48 [b] (depthM b).2).k:=f2
 obtain ⟨l1,m1⟩:=read_bd aL (m:=1) ⟨by simp,by simp⟩ m0 (by decide)
 obtain ⟨l2,m2⟩:=read_bd (aK kind) l1 m1 (by show ¬ (4:Int)=2;decide)
 obtain ⟨_,l3⟩:=fields_k fs (k:=(readR (aK kind) (readR aL [b] (depthM b).2).l (readR aL [b] (depthM b).2).k).k) hok l2.1
 have hvl:=readFs_length fs (readR (aK kind) (readR aL [b] (depthM b).2).l (readR aL [b] (depthM b).2).k).l (readR (aK kind) (readR aL [b] (depthM b).2).l (readR aL [b] (depthM b).2).k).k
 generalize hx:readFs fs (readR (aK kind) (readR aL [b] (depthM b).2).l (readR aL [b] (depthM b).2).k).l (readR (aK kind) (readR aL [b] (depthM b).2).l (readR aL [b] (depthM b).2).k).k=x at *
 obtain ⟨f3,f4⟩:=read_leave aE rfl x.1.1 x.1.2
 have l4:0<(readR aE x.1.1 x.1.2).l.length∧(readR aE x.1.1 x.1.2).l.length≤1000:=by
  rw [f3]
  obtain ⟨_,_,v3,v4⟩:=leave_mu (l:=x.1.1) (k:=x.1.2) l3.1
  by_cases h0:leaveK x.1.1 x.1.2=0
  ·have:=v3 h0;omega
  ·rw [v4 h0];omega
 have hM1:(readRec kind fs b).1=x.2:=by unfold readRec;dsimp only;rw [hx]
 have hM2:(readRec kind fs b).2=endK (readR aE x.1.1 x.1.2).l (readR aE x.1.1 x.1.2).k:=by unfold readRec;dsimp only;rw [hx]
 have n1:=now_le m1
 refine ac_of 40 Tryz.func96 rfl rfl rfl (fun al w0 F0 St0=>?_)
 refine jcr ?_
 refine jqe (jebx 4 fun p1=>?_)
 refine jqe (jeal (n:=2) zr71 rfl fun p2=>?_)
 refine jU 651 ?_
 refine jqe (jeal (n:=2) zr71 rfl fun p3=>?_)
 refine jU 165 ?_
 refine jqe (jecS (read08_ac b (by omega)) ?_)
 rintro _ _ ⟨n,rfl,rfl⟩
 refine jU 1651 ?_
 refine jqm (jmcH 3 ((by have h:=enter_ac (gs:=gs) n [b] (depthM b).2 48 (by simp) (by show b.length≤_;omega);rw [← f1',← f2'] at h;exact h)) ?_)
 rintro _ _ ⟨rfl,rfl⟩
 refine ⟨_,_,rfl,cZ,?_⟩
 refine jU 50905090165 ?_
 refine jqm (jmcH 3 (enumR_ac n (readR aL [b] (depthM b).2).l (readR aL [b] (depthM b).2).k kind (by omega) (by omega)) ?_)
 rintro _ _ ⟨rfl,rfl⟩
 refine ⟨_,_,rfl,cZ,?_⟩
 refine jU 150500000065 ?_
 refine jqm (m_callHV1 (i:=3) rfl rfl (by assumption) rfl ((by have h:=hG n (readR (aK kind) (readR aL [b] (depthM b).2).l (readR aL [b] (depthM b).2).k).l (readR (aK kind) (readR aL [b] (depthM b).2).l (readR aL [b] (depthM b).2).k).k (by omega) m2;rw [hx] at h;exact h)) (.cons cP .nil) rfl rfl ?_)
 rintro _ _ ⟨rfl,rfl⟩
 refine ⟨_,rfl,?_⟩
 refine jqe (jeal (n:=2) zr71 rfl fun p6=>?_)
 refine jqm (jmstF 2 (X x.2) ?_ ?_ (hleaf:=hlf _))
 ·exact (fun j hj=>by rcases j with _|_|j <;> first|exact cZ|omega)
 refine jU 165 ?_
 refine jqm (jmcH 3 ((by have h:=leave_ac (gs:=gs) n x.1.1 x.1.2 (by omega);rw [← f3,← f4] at h;exact h)) ?_)
 rintro _ _ ⟨rfl,rfl⟩
 refine ⟨_,_,rfl,cZ,?_⟩
 refine jU 1675 ?_
 refine jqm (jmcH 3 (end08_ac n (readR aE x.1.1 x.1.2).l (readR aE x.1.1 x.1.2).k (by omega)) ?_)
 rintro _ _ ⟨rfl,rfl⟩
 refine ⟨_,_,rfl,cZ,?_⟩
 refine jU 55000001651 ?_;refine jcc (fun h97=>?_) fun h97=>?_
 ·refine jcr ?_;refine jqo (jrdoA 2) ?_;refine jU 1 ?_
  refine jqm (jmst 2 ?_)
  refine jU 51 ?_
  refine jR (jtr (jrt (hres:=res_2 rfl (javA 2) javt) (hv:=?_)))
  rw [show recM kind fs b=(List.replicate fs.length V4.z,(readRec kind fs b).2) by unfold recM;rw [if_pos (by omega)],hM2]
  exact cT (CEnt.agg rfl (fun j hj=>by rcases j with _|_|j <;> first|exact hz _ (by omega)|omega)) cZ
 refine jU 5010067810 ?_;refine jqo (jrdoA 2) ?_
 refine jqe (e_callV rfl rfl (by assumption) (hR x.2 hvl) (.cons (CEnt.agg rfl (fun j hj=>by rcases j with _|_|j <;> first|exact cZ|omega)) .nil) rfl rfl ?_)
 rintro _ _ ⟨rfl,rfl⟩
 refine jU 530 ?_;refine jcc (fun h100=>?_) fun h100=>?_
 rotate_left
 ·refine jU 6810 ?_;refine jqo (jrdoA 2) ?_
  refine jqm (jmst 2 ?_ (hleaf:=(by simpa only [Nat.zero_add] using hlf x.2)))
  refine jU 51 ?_
  refine jR (jrt (hres:=res_2 rfl (javA 2) javt) (hv:=?_))
  rw [show recM kind fs b=(x.2,0) by unfold recM;rw [if_neg (by omega),if_neg (by rw [hM1];simpa using h100),hM1]]
  exact cT (CEnt.agg rfl (fun j hj=>by rcases j with _|_|j <;> first|exact cZ|omega)) CEnt.nil
 refine jcs ?_;refine jcdZ (.rd 0 (.rd 1 (.one 2 (.rd 3 .done)))) ?_;refine jzo (jrdoA 2) ?_;refine jzq (jrde 3) ?_
 refine jzm (jmst 2 ?_)
 refine jU 8700000400000 ?_
 refine jR (jtr (jrt (hres:=res_2 rfl (javA 2) javt) (hv:=?_)))
 rw [show recM kind fs b=(List.replicate fs.length V4.z,4) by unfold recM;rw [if_neg (by omega),if_pos (by rw [hM1];simpa using h100)]]
 exact cT (CEnt.agg rfl (fun j hj=>by rcases j with _|_|j <;> first|exact hz _ (by omega)|omega)) cZ
def issuesC:CV:=recC 6 165 166 167
theorem issues_ac {gs:List Nat}:ACp gs Tryz.prog 89 [] issuesC:=by
 refine ac_of 2 Tryz.func89 rfl rfl rfl (fun al w0 F0 St0=>?_)
 refine jcr ?_
 refine jqe (jeal (n:=4) zr161 rfl fun p1=>?_)
 refine jU 65 ?_;refine jq (rd_build (n:=4) rfl zr161 pl161 rfl rfl) ?_
 refine jqm (jmst 4 ?_)
 refine jU 5 ?_
 refine jR (jrt (hres:=res_1 rfl (javA 4)) (hv:=CEnt.agg rfl (fun j hj=>by rcases j with _|_|_|_|j <;> first|exact cZ|exact CEnt.fn0|omega)))
end
section
open Go.RowKit Cal
theorem lenCase (vs:List V4) (h:vs.length=fsCase.length):∃ v0 v1 v2 v3 v4 v5,vs=[v0,v1,v2,v3,v4,v5]:=by
 rcases vs with _|⟨v0,_|⟨v1,_|⟨v2,_|⟨v3,_|⟨v4,_|⟨v5,_|⟨x,vs⟩⟩⟩⟩⟩⟩⟩ <;> first|exact ⟨_,_,_,_,_,_,rfl⟩|(exfalso;simp [fsCase] at h)
theorem bytesCase_ac {gs:List Nat} [OkG gs] [OkT gs] (v0 v1 v2 v3 v4 v5:V4) (hn:NormFs fsCase [v0,v1,v2,v3,v4,v5]):ACp gs Tryz.prog 16 [.agg 8 (caseF [v0,v1,v2,v3,v4,v5])] (.tup 2 (fl [bsC (if rightRec 2 fsCase [v0,v1,v2,v3,v4,v5]=true then recB 2 fsCase [v0,v1,v2,v3,v4,v5] else []),.err (if rightRec 2 fsCase [v0,v1,v2,v3,v4,v5]=true then 0 else 4)])):=by
 have hk:KindOk 2:=by unfold KindOk;decide
 have hg:rightRec 2 fsCase [v0,v1,v2,v3,v4,v5]=true→GoodFs fsCase [v0,v1,v2,v3,v4,v5]:=fun h=>by
  unfold rightRec at h
  rw [Bool.and_eq_true] at h
  exact goods_right hn h.1
 have hB:=recBytesCase_ac (gs:=gs) (fR:=141) (fP:=142) (fG:=144) (by kernel_rfl) (by kernel_rfl) 2 hk (caseF [v0,v1,v2,v3,v4,v5]) (rightRec 2 fsCase [v0,v1,v2,v3,v4,v5]) (putFds fsCase [v0,v1,v2,v3,v4,v5] (doW (vE 2) (doW (w1 48) w00))) (rightCase_ac v0 v1 v2 v3 v4 v5) (fun h n=>putCase_ac n (inv_rec0 hk) (by decide) v0 v1 v2 v3 v4 v5 (hg h)) (fun h=>inv_okW (inv_fds ok_case (hg h) (inv_rec0 hk)) (by decide)) (fun h=>by have:=inv_okW (inv_rec hk ok_case (hg h)) (by decide);exact this)
 have e1:(if rightRec 2 fsCase [v0,v1,v2,v3,v4,v5]=true then doneB (closeV (putFds fsCase [v0,v1,v2,v3,v4,v5] (doW (vE 2) (doW (w1 48) w00)))) else [])=if rightRec 2 fsCase [v0,v1,v2,v3,v4,v5]=true then recB 2 fsCase [v0,v1,v2,v3,v4,v5] else []:=by
  split
  ·exact (putRec_ok hk ok_case (by decide) (hg ‹_›)).2
  ·rfl
 have e2:(if rightRec 2 fsCase [v0,v1,v2,v3,v4,v5]=true then doneK (closeV (putFds fsCase [v0,v1,v2,v3,v4,v5] (doW (vE 2) (doW (w1 48) w00)))) else 4)=if rightRec 2 fsCase [v0,v1,v2,v3,v4,v5]=true then 0 else 4:=by
  split
  ·exact (putRec_ok hk ok_case (by decide) (hg ‹_›)).1
  ·rfl
 rw [e1,e2] at hB
 refine ac_of 9 Tryz.func16 rfl rfl rfl (fun al w0 F0 St0=>?_)
 refine jcr ?_
 refine jqe (jebx 8 fun p1=>?_)
 refine jU 7511 ?_;refine jcd (.rd 1 (.one 0 (.one 2 (.rd 3 (.rd 4 (.rd 5 (.rd 6 .done))))))) ?_;refine jyo (jrdoA 8) ?_
 refine jye (jecP cases_ac ?_)
 refine jye (jecP hB ?_ (ho:=rfl) (he:=(.cons (se rfl cZ) (.cons (se rfl (CEnt.agg rfl (fun j hj=>by rcases j with _|_|_|_|_|_|_|_|j <;> exact cZ))) .nil))))
 refine jyq jrx ?_;refine jyq jrx ?_;refine jU 8807070 ?_
 refine jR (jrt (hv:=cZ))
theorem readsCase_ac {gs:List Nat} [OkG gs] [OkT gs] (b:List UInt8) (hb:b.length≤90000):ACp gs Tryz.prog 83 [casesC,bsC b] (.c (.bool (decide ((recM 2 fsCase b).2=0)))):=by
 have hk:KindOk 2:=by unfold KindOk;decide
 have hB:=recReadCase_ac (gs:=gs) (fR:=141) (fP:=142) (fG:=144) (by kernel_rfl) (by kernel_rfl) 2 hk fsCase (by decide) ok_case caseF (fun _=>rfl) (fun j hj=>by rcases j with _|_|_|_|_|_|_|_|j <;> first|exact cZ|exact cN) (fun vs hv=>by obtain ⟨v0,v1,v2,v3,v4,v5,rfl⟩:=lenCase vs hv;exact rightCase_ac v0 v1 v2 v3 v4 v5) (fun n l k hl hm=>getCase_ac n l k hl hm) b hb
 refine ac_of 15 Tryz.func83 rfl rfl rfl (fun al w0 F0 St0=>?_)
 refine jcr ?_
 refine jqe (jebx 4 fun p1=>?_)
 refine jU 651 ?_;refine jqo (jrdoA 4) ?_;refine jU 1 ?_
 refine jqe (jecP hB ?_)
 refine jU 9009001 ?_
 refine jqe (jeal (n:=8) zr38 rfl fun p2=>?_)
 refine jqm (jmst 8 ?_)
 refine jU 515000001651 ?_
 refine jR (jrt (hv:=?_))
 refine cB ?_
 rfl
theorem lenAuth (vs:List V4) (h:vs.length=fsAuth.length):∃ v0 v1 v2 v3 v4 v5 v6,vs=[v0,v1,v2,v3,v4,v5,v6]:=by
 rcases vs with _|⟨v0,_|⟨v1,_|⟨v2,_|⟨v3,_|⟨v4,_|⟨v5,_|⟨v6,_|⟨x,vs⟩⟩⟩⟩⟩⟩⟩⟩ <;> first|exact ⟨_,_,_,_,_,_,_,rfl⟩|(exfalso;simp [fsAuth] at h)
theorem readsAuth_ac {gs:List Nat} [OkG gs] [OkT gs] (b:List UInt8) (hb:b.length≤90000):ACp gs Tryz.prog 84 [authoritiesC,bsC b] (.c (.bool (decide ((recM 3 fsAuth b).2=0)))):=by
 have hk:KindOk 3:=by unfold KindOk;decide
 have hB:=recReadAuth_ac (gs:=gs) (fR:=147) (fP:=148) (fG:=149) (by kernel_rfl) (by kernel_rfl) 3 hk fsAuth (by decide) ok_auth authF (fun _=>rfl) (fun j hj=>by rcases j with _|_|_|_|_|_|_|j <;> first|exact cZ|exact cN) (fun vs hv=>by obtain ⟨v0,v1,v2,v3,v4,v5,v6,rfl⟩:=lenAuth vs hv;exact rightAuth_ac v0 v1 v2 v3 v4 v5 v6) (fun n l k hl hm=>getAuth_ac n l k hl hm) b hb
 refine ac_of 15 Tryz.func84 rfl rfl rfl (fun al w0 F0 St0=>?_)
 refine jcr ?_
 refine jqe (jebx 4 fun p1=>?_)
 refine jU 651 ?_;refine jqo (jrdoA 4) ?_;refine jU 1 ?_
 refine jqe (jecP hB ?_)
 refine jU 9009001 ?_
 refine jqe (jeal (n:=7) zr52 rfl fun p2=>?_)
 refine jqm (jmst 7 ?_)
 refine jU 515000001651 ?_
 refine jR (jrt (hv:=?_))
 refine cB ?_
 rfl
theorem lenMark (vs:List V4) (h:vs.length=fsMark.length):∃ v0 v1 v2 v3,vs=[v0,v1,v2,v3]:=by
 rcases vs with _|⟨v0,_|⟨v1,_|⟨v2,_|⟨v3,_|⟨x,vs⟩⟩⟩⟩⟩ <;> first|exact ⟨_,_,_,_,rfl⟩|(exfalso;simp [fsMark] at h)
theorem bytesMark_ac {gs:List Nat} [OkG gs] [OkT gs] (v0 v1 v2 v3:V4) (hn:NormFs fsMark [v0,v1,v2,v3]):ACp gs Tryz.prog 36 [.agg 4 (markF [v0,v1,v2,v3])] (.tup 2 (fl [bsC (if rightRec 4 fsMark [v0,v1,v2,v3]=true then recB 4 fsMark [v0,v1,v2,v3] else []),.err (if rightRec 4 fsMark [v0,v1,v2,v3]=true then 0 else 4)])):=by
 have hk:KindOk 4:=by unfold KindOk;decide
 have hg:rightRec 4 fsMark [v0,v1,v2,v3]=true→GoodFs fsMark [v0,v1,v2,v3]:=fun h=>by
  unfold rightRec at h
  rw [Bool.and_eq_true] at h
  exact goods_right hn h.1
 have hB:=recBytesMark_ac (gs:=gs) (fR:=159) (fP:=160) (fG:=161) (by kernel_rfl) (by kernel_rfl) 4 hk (markF [v0,v1,v2,v3]) (rightRec 4 fsMark [v0,v1,v2,v3]) (putFds fsMark [v0,v1,v2,v3] (doW (vE 4) (doW (w1 48) w00))) (rightMark_ac v0 v1 v2 v3) (fun h n=>putMark_ac n (inv_rec0 hk) (by decide) v0 v1 v2 v3 (hg h)) (fun h=>inv_okW (inv_fds ok_mark (hg h) (inv_rec0 hk)) (by decide)) (fun h=>by have:=inv_okW (inv_rec hk ok_mark (hg h)) (by decide);exact this)
 have e1:(if rightRec 4 fsMark [v0,v1,v2,v3]=true then doneB (closeV (putFds fsMark [v0,v1,v2,v3] (doW (vE 4) (doW (w1 48) w00)))) else [])=if rightRec 4 fsMark [v0,v1,v2,v3]=true then recB 4 fsMark [v0,v1,v2,v3] else []:=by
  split
  ·exact (putRec_ok hk ok_mark (by decide) (hg ‹_›)).2
  ·rfl
 have e2:(if rightRec 4 fsMark [v0,v1,v2,v3]=true then doneK (closeV (putFds fsMark [v0,v1,v2,v3] (doW (vE 4) (doW (w1 48) w00)))) else 4)=if rightRec 4 fsMark [v0,v1,v2,v3]=true then 0 else 4:=by
  split
  ·exact (putRec_ok hk ok_mark (by decide) (hg ‹_›)).1
  ·rfl
 rw [e1,e2] at hB
 refine ac_of 9 Tryz.func36 rfl rfl rfl (fun al w0 F0 St0=>?_)
 refine jcr ?_
 refine jqe (jebx 4 fun p1=>?_)
 refine jU 7511 ?_;refine jcd (.rd 1 (.one 0 (.one 2 (.rd 3 (.rd 4 (.rd 5 (.rd 6 .done))))))) ?_;refine jyo (jrdoA 4) ?_
 refine jye (jecP marks_ac ?_)
 refine jye (jecP hB ?_ (ho:=rfl) (he:=(.cons (se rfl cZ) (.cons (se rfl (CEnt.agg rfl (fun j hj=>by rcases j with _|_|_|_|j <;> exact cZ))) .nil))))
 refine jyq jrx ?_;refine jyq jrx ?_;refine jU 8807070 ?_
 refine jR (jrt (hv:=cZ))
theorem readMark_ac {gs:List Nat} [OkG gs] [OkT gs] (b:List UInt8) (hb:b.length≤90000):ACp gs Tryz.prog 42 [bsC b] (.tup 2 (fl [.agg 4 (markF (recM 4 fsMark b).1),.err (recM 4 fsMark b).2])):=by
 have hk:KindOk 4:=by unfold KindOk;decide
 have hB:=recReadMark_ac (gs:=gs) (fR:=159) (fP:=160) (fG:=161) (by kernel_rfl) (by kernel_rfl) 4 hk fsMark (by decide) ok_mark markF (fun _=>rfl) (fun j hj=>by rcases j with _|_|_|_|j <;> exact cZ) (fun vs hv=>by obtain ⟨v0,v1,v2,v3,rfl⟩:=lenMark vs hv;exact rightMark_ac v0 v1 v2 v3) (fun n l k hl hm=>getMark_ac n l k hl hm) b hb
 refine ac_of 9 Tryz.func42 rfl rfl rfl (fun al w0 F0 St0=>?_)
 refine jcr ?_
 refine jqe (jeal (n:=4) zr67 rfl fun p1=>?_)
 refine jU 651 ?_
 refine jqe (jecP marks_ac ?_)
 refine jU 1 ?_
 refine jqe (jecP hB ?_)
 refine jU 900900 ?_
 refine jqm (jmstF 4 (markF (recM 4 fsMark b).1) ?_ ?_)
 ·exact (fun j hj=>by rcases j with _|_|_|_|j <;> first|exact cZ|omega)
 refine jU 51 ?_
 refine jR (jrt (hres:=res_2 rfl (javA 4) javt) (hv:=cT (CEnt.agg rfl (fun j hj=>by rcases j with _|_|_|_|j <;> exact cZ)) cZ))
theorem readsMark_ac {gs:List Nat} [OkG gs] [OkT gs] (b:List UInt8) (hb:b.length≤90000):ACp gs Tryz.prog 86 [marksC,bsC b] (.c (.bool (decide ((recM 4 fsMark b).2=0)))):=by
 have hk:KindOk 4:=by unfold KindOk;decide
 have hB:=recReadMark_ac (gs:=gs) (fR:=159) (fP:=160) (fG:=161) (by kernel_rfl) (by kernel_rfl) 4 hk fsMark (by decide) ok_mark markF (fun _=>rfl) (fun j hj=>by rcases j with _|_|_|_|j <;> exact cZ) (fun vs hv=>by obtain ⟨v0,v1,v2,v3,rfl⟩:=lenMark vs hv;exact rightMark_ac v0 v1 v2 v3) (fun n l k hl hm=>getMark_ac n l k hl hm) b hb
 refine ac_of 15 Tryz.func86 rfl rfl rfl (fun al w0 F0 St0=>?_)
 refine jcr ?_
 refine jqe (jebx 4 fun p1=>?_)
 refine jU 651 ?_;refine jqo (jrdoA 4) ?_;refine jU 1 ?_
 refine jqe (jecP hB ?_)
 refine jU 9009001 ?_
 refine jqe (jeal (n:=4) zr67 rfl fun p2=>?_)
 refine jqm (jmst 4 ?_)
 refine jU 515000001651 ?_
 refine jR (jrt (hv:=?_))
 refine cB ?_
 rfl
theorem lenTick (vs:List V4) (h:vs.length=fsTick.length):∃ v0 v1 v2,vs=[v0,v1,v2]:=by
 rcases vs with _|⟨v0,_|⟨v1,_|⟨v2,_|⟨x,vs⟩⟩⟩⟩ <;> first|exact ⟨_,_,_,rfl⟩|(exfalso;simp [fsTick] at h)
theorem bytesTick_ac {gs:List Nat} [OkG gs] [OkT gs] (v0 v1 v2:V4) (hn:NormFs fsTick [v0,v1,v2]):ACp gs Tryz.prog 37 [.agg 3 (tickF [v0,v1,v2])] (.tup 2 (fl [bsC (if rightRec 7 fsTick [v0,v1,v2]=true then recB 7 fsTick [v0,v1,v2] else []),.err (if rightRec 7 fsTick [v0,v1,v2]=true then 0 else 4)])):=by
 have hk:KindOk 7:=by unfold KindOk;decide
 have hg:rightRec 7 fsTick [v0,v1,v2]=true→GoodFs fsTick [v0,v1,v2]:=fun h=>by
  unfold rightRec at h
  rw [Bool.and_eq_true] at h
  exact goods_right hn h.1
 have hB:=recBytesTick_ac (gs:=gs) (fR:=162) (fP:=163) (fG:=164) (by kernel_rfl) (by kernel_rfl) 7 hk (tickF [v0,v1,v2]) (rightRec 7 fsTick [v0,v1,v2]) (putFds fsTick [v0,v1,v2] (doW (vE 7) (doW (w1 48) w00))) (rightTick_ac v0 v1 v2) (fun h n=>putTick_ac n (inv_rec0 hk) (by decide) v0 v1 v2 (hg h)) (fun h=>inv_okW (inv_fds ok_tick (hg h) (inv_rec0 hk)) (by decide)) (fun h=>by have:=inv_okW (inv_rec hk ok_tick (hg h)) (by decide);exact this)
 have e1:(if rightRec 7 fsTick [v0,v1,v2]=true then doneB (closeV (putFds fsTick [v0,v1,v2] (doW (vE 7) (doW (w1 48) w00)))) else [])=if rightRec 7 fsTick [v0,v1,v2]=true then recB 7 fsTick [v0,v1,v2] else []:=by
  split
  ·exact (putRec_ok hk ok_tick (by decide) (hg ‹_›)).2
  ·rfl
 have e2:(if rightRec 7 fsTick [v0,v1,v2]=true then doneK (closeV (putFds fsTick [v0,v1,v2] (doW (vE 7) (doW (w1 48) w00)))) else 4)=if rightRec 7 fsTick [v0,v1,v2]=true then 0 else 4:=by
  split
  ·exact (putRec_ok hk ok_tick (by decide) (hg ‹_›)).1
  ·rfl
 rw [e1,e2] at hB
 refine ac_of 9 Tryz.func37 rfl rfl rfl (fun al w0 F0 St0=>?_)
 refine jcr ?_
 refine jqe (jebx 3 fun p1=>?_)
 refine jU 7511 ?_;refine jcd (.rd 1 (.one 0 (.one 2 (.rd 3 (.rd 4 (.rd 5 (.rd 6 .done))))))) ?_;refine jyo (jrdoA 3) ?_
 refine jye (jecP tickets_ac ?_)
 refine jye (jecP hB ?_ (ho:=rfl) (he:=(.cons (se rfl cZ) (.cons (se rfl (CEnt.agg rfl (fun j hj=>by rcases j with _|_|_|j <;> exact cZ))) .nil))))
 refine jyq jrx ?_;refine jyq jrx ?_;refine jU 8807070 ?_
 refine jR (jrt (hv:=cZ))
theorem readTick_ac {gs:List Nat} [OkG gs] [OkT gs] (b:List UInt8) (hb:b.length≤90000):ACp gs Tryz.prog 43 [bsC b] (.tup 2 (fl [.agg 3 (tickF (recM 7 fsTick b).1),.err (recM 7 fsTick b).2])):=by
 have hk:KindOk 7:=by unfold KindOk;decide
 have hB:=recReadTick_ac (gs:=gs) (fR:=162) (fP:=163) (fG:=164) (by kernel_rfl) (by kernel_rfl) 7 hk fsTick (by decide) ok_tick tickF (fun _=>rfl) (fun j hj=>by rcases j with _|_|_|j <;> first|exact cZ|exact cN) (fun vs hv=>by obtain ⟨v0,v1,v2,rfl⟩:=lenTick vs hv;exact rightTick_ac v0 v1 v2) (fun n l k hl hm=>getTick_ac n l k hl hm) b hb
 refine ac_of 9 Tryz.func43 rfl rfl rfl (fun al w0 F0 St0=>?_)
 refine jcr ?_
 refine jqe (jeal (n:=3) zr69 rfl fun p1=>?_)
 refine jU 651 ?_
 refine jqe (jecP tickets_ac ?_)
 refine jU 1 ?_
 refine jqe (jecP hB ?_)
 refine jU 900900 ?_
 refine jqm (jmstF 3 (tickF (recM 7 fsTick b).1) ?_ ?_)
 ·exact (fun j hj=>by rcases j with _|_|_|j <;> first|exact cZ|omega)
 refine jU 51 ?_
 refine jR (jrt (hres:=res_2 rfl (javA 3) javt) (hv:=cT (CEnt.agg rfl (fun j hj=>by rcases j with _|_|_|j <;> exact cZ)) cZ))
theorem readsTick_ac {gs:List Nat} [OkG gs] [OkT gs] (b:List UInt8) (hb:b.length≤90000):ACp gs Tryz.prog 88 [ticketsC,bsC b] (.c (.bool (decide ((recM 7 fsTick b).2=0)))):=by
 have hk:KindOk 7:=by unfold KindOk;decide
 have hB:=recReadTick_ac (gs:=gs) (fR:=162) (fP:=163) (fG:=164) (by kernel_rfl) (by kernel_rfl) 7 hk fsTick (by decide) ok_tick tickF (fun _=>rfl) (fun j hj=>by rcases j with _|_|_|j <;> first|exact cZ|exact cN) (fun vs hv=>by obtain ⟨v0,v1,v2,rfl⟩:=lenTick vs hv;exact rightTick_ac v0 v1 v2) (fun n l k hl hm=>getTick_ac n l k hl hm) b hb
 refine ac_of 15 Tryz.func88 rfl rfl rfl (fun al w0 F0 St0=>?_)
 refine jcr ?_
 refine jqe (jebx 4 fun p1=>?_)
 refine jU 651 ?_;refine jqo (jrdoA 4) ?_;refine jU 1 ?_
 refine jqe (jecP hB ?_)
 refine jU 9009001 ?_
 refine jqe (jeal (n:=3) zr69 rfl fun p2=>?_)
 refine jqm (jmst 3 ?_)
 refine jU 515000001651 ?_
 refine jR (jrt (hv:=?_))
 refine cB ?_
 rfl
theorem lenIss (vs:List V4) (h:vs.length=fsIss.length):∃ v0 v1,vs=[v0,v1]:=by
 rcases vs with _|⟨v0,_|⟨v1,_|⟨x,vs⟩⟩⟩ <;> first|exact ⟨_,_,rfl⟩|(exfalso;simp [fsIss] at h)
theorem bytesIss_ac {gs:List Nat} [OkG gs] [OkT gs] (v0 v1:V4) (hn:NormFs fsIss [v0,v1]):ACp gs Tryz.prog 38 [.agg 2 (issF [v0,v1])] (.tup 2 (fl [bsC (if rightRec 6 fsIss [v0,v1]=true then recB 6 fsIss [v0,v1] else []),.err (if rightRec 6 fsIss [v0,v1]=true then 0 else 4)])):=by
 have hk:KindOk 6:=by unfold KindOk;decide
 have hg:rightRec 6 fsIss [v0,v1]=true→GoodFs fsIss [v0,v1]:=fun h=>by
  unfold rightRec at h
  rw [Bool.and_eq_true] at h
  exact goods_right hn h.1
 have hB:=recBytesIss_ac (gs:=gs) (fR:=165) (fP:=166) (fG:=167) (by kernel_rfl) (by kernel_rfl) 6 hk (issF [v0,v1]) (rightRec 6 fsIss [v0,v1]) (putFds fsIss [v0,v1] (doW (vE 6) (doW (w1 48) w00))) (rightIss_ac v0 v1) (fun h n=>putIss_ac n (inv_rec0 hk) (by decide) v0 v1 (hg h)) (fun h=>inv_okW (inv_fds ok_iss (hg h) (inv_rec0 hk)) (by decide)) (fun h=>by have:=inv_okW (inv_rec hk ok_iss (hg h)) (by decide);exact this)
 have e1:(if rightRec 6 fsIss [v0,v1]=true then doneB (closeV (putFds fsIss [v0,v1] (doW (vE 6) (doW (w1 48) w00)))) else [])=if rightRec 6 fsIss [v0,v1]=true then recB 6 fsIss [v0,v1] else []:=by
  split
  ·exact (putRec_ok hk ok_iss (by decide) (hg ‹_›)).2
  ·rfl
 have e2:(if rightRec 6 fsIss [v0,v1]=true then doneK (closeV (putFds fsIss [v0,v1] (doW (vE 6) (doW (w1 48) w00)))) else 4)=if rightRec 6 fsIss [v0,v1]=true then 0 else 4:=by
  split
  ·exact (putRec_ok hk ok_iss (by decide) (hg ‹_›)).1
  ·rfl
 rw [e1,e2] at hB
 refine ac_of 9 Tryz.func38 rfl rfl rfl (fun al w0 F0 St0=>?_)
 refine jcr ?_
 refine jqe (jebx 2 fun p1=>?_)
 refine jU 7511 ?_;refine jcd (.rd 1 (.one 0 (.one 2 (.rd 3 (.rd 4 (.rd 5 (.rd 6 .done))))))) ?_;refine jyo (jrdoA 2) ?_
 refine jye (jecP issues_ac ?_)
 refine jye (jecP hB ?_ (ho:=rfl) (he:=(.cons (se rfl cZ) (.cons (se rfl (CEnt.agg rfl (fun j hj=>by rcases j with _|_|j <;> exact cZ))) .nil))))
 refine jyq jrx ?_;refine jyq jrx ?_;refine jU 8807070 ?_
 refine jR (jrt (hv:=cZ))
theorem readIss_ac {gs:List Nat} [OkG gs] [OkT gs] (b:List UInt8) (hb:b.length≤90000):ACp gs Tryz.prog 44 [bsC b] (.tup 2 (fl [.agg 2 (issF (recM 6 fsIss b).1),.err (recM 6 fsIss b).2])):=by
 have hk:KindOk 6:=by unfold KindOk;decide
 have hB:=recReadIss_ac (gs:=gs) (fR:=165) (fP:=166) (fG:=167) (by kernel_rfl) (by kernel_rfl) 6 hk fsIss (by decide) ok_iss issF (fun _=>rfl) (fun j hj=>by rcases j with _|_|j <;> first|exact cZ|exact cN) (fun vs hv=>by obtain ⟨v0,v1,rfl⟩:=lenIss vs hv;exact rightIss_ac v0 v1) (fun n l k hl hm=>getIss_ac n l k hl hm) b hb
 refine ac_of 9 Tryz.func44 rfl rfl rfl (fun al w0 F0 St0=>?_)
 refine jcr ?_
 refine jqe (jeal (n:=2) zr71 rfl fun p1=>?_)
 refine jU 651 ?_
 refine jqe (jecP issues_ac ?_)
 refine jU 1 ?_
 refine jqe (jecP hB ?_)
 refine jU 900900 ?_
 refine jqm (jmstF 2 (issF (recM 6 fsIss b).1) ?_ ?_)
 ·exact (fun j hj=>by rcases j with _|_|j <;> first|exact cZ|omega)
 refine jU 51 ?_
 refine jR (jrt (hres:=res_2 rfl (javA 2) javt) (hv:=cT (CEnt.agg rfl (fun j hj=>by rcases j with _|_|j <;> exact cZ)) cZ))
theorem readsIss_ac {gs:List Nat} [OkG gs] [OkT gs] (b:List UInt8) (hb:b.length≤90000):ACp gs Tryz.prog 90 [issuesC,bsC b] (.c (.bool (decide ((recM 6 fsIss b).2=0)))):=by
 have hk:KindOk 6:=by unfold KindOk;decide
 have hB:=recReadIss_ac (gs:=gs) (fR:=165) (fP:=166) (fG:=167) (by kernel_rfl) (by kernel_rfl) 6 hk fsIss (by decide) ok_iss issF (fun _=>rfl) (fun j hj=>by rcases j with _|_|j <;> first|exact cZ|exact cN) (fun vs hv=>by obtain ⟨v0,v1,rfl⟩:=lenIss vs hv;exact rightIss_ac v0 v1) (fun n l k hl hm=>getIss_ac n l k hl hm) b hb
 refine ac_of 15 Tryz.func90 rfl rfl rfl (fun al w0 F0 St0=>?_)
 refine jcr ?_
 refine jqe (jebx 4 fun p1=>?_)
 refine jU 651 ?_;refine jqo (jrdoA 4) ?_;refine jU 1 ?_
 refine jqe (jecP hB ?_)
 refine jU 9009001 ?_
 refine jqe (jeal (n:=2) zr71 rfl fun p2=>?_)
 refine jqm (jmst 2 ?_)
 refine jU 515000001651 ?_
 refine jR (jrt (hv:=?_))
 refine cB ?_
 rfl
theorem kind19_ac {gs:List Nat} [OkG gs] [OkT gs] (b:List UInt8) (hb:b.length≤90000):ACp gs Tryz.prog 33 [bsC b] (.c (.int .i64 (kindB b))):=by
 refine ac_of 23 Tryz.func33 rfl rfl rfl (fun al w0 F0 St0=>?_)
 refine jU 6207516 ?_
 refine jqe (jecP cases_ac ?_)
 refine jU 1 ?_
 refine jqe (jecP (readsCase_ac b hb) ?_)
 refine jU 51 ?_;refine jcc (fun h257=>?_) fun h257=>?_
 ·refine jU 516 ?_
  refine jR (jbr (jtr (jrt (hv:=?_))))
  refine cI ?_
  unfold kindB
  (simp_all;done)
 refine jcr ?_
 refine jqe (jecP authorities_ac ?_)
 refine jU 1 ?_
 refine jqe (jecP (readsAuth_ac b hb) ?_)
 refine jU 51 ?_;refine jcc (fun h259=>?_) fun h259=>?_
 ·refine jU 516 ?_
  refine jR (jbr (jtr (jrt (hv:=?_))))
  refine cI ?_
  unfold kindB
  (simp_all;done)
 refine jcr ?_
 refine jqe (jecP marks_ac ?_)
 refine jU 1 ?_
 refine jqe (jecP (readsMark_ac b hb) ?_)
 refine jU 51 ?_;refine jcc (fun h261=>?_) fun h261=>?_
 ·refine jU 516 ?_
  refine jR (jbr (jtr (jrt (hv:=?_))))
  refine cI ?_
  unfold kindB
  (simp_all;done)
 refine jcr ?_
 refine jqe (jecP tickets_ac ?_)
 refine jU 1 ?_
 refine jqe (jecP (readsTick_ac b hb) ?_)
 refine jU 51 ?_;refine jcc (fun h263=>?_) fun h263=>?_
 ·refine jU 516 ?_
  refine jR (jbr (jtr (jrt (hv:=?_))))
  refine cI ?_
  unfold kindB
  (simp_all;done)
 refine jcr ?_
 refine jqe (jecP issues_ac ?_)
 refine jU 1 ?_
 refine jqe (jecP (readsIss_ac b hb) ?_)
 refine jU 51 ?_;refine jcc (fun h265=>?_) fun h265=>?_
 ·refine jU 516 ?_
  refine jR (jbr (jtr (jrt (hv:=?_))))
  refine cI ?_
  unfold kindB
  (simp_all;done)
 refine jU 516840010 ?_
 refine jR (jrt (hv:=?_))
 refine cI ?_
 unfold kindB
 (simp_all;done)
end
section
open Go.RowKit Cal
set_option maxHeartbeats 1000000 in
theorem rbodyF_ac {gs:List Nat} (v:VV) (hv:OkV v) (hF:v.kind=3∨v.kind=4∨v.kind=6∨v.kind=7∨v.kind=9):AC gs Tryz.prog 157 [] [valC v] (BodyQ v):=by
 have hvt:=hv.t
 have hvn:=hv.n
 refine ac_of 77 Tryz.func157 rfl rfl rfl (fun al w0 F0 St0=>?_)
 refine jcr ?_
 refine jqe (jebx 5 fun p1=>?_)
 refine jU 51262055090675111 ?_;refine jcc (fun h31=>?_) fun h31=>?_
 ·refine jU 501006 ?_
  refine jqe (jecP (rput04_ac v.n hv.n.1 hv.n.2) ?_)
  refine jU 3000500070005111 ?_
  exact end_ownV (.inl rfl) [] (by decide) rfl (res_3 rfl javt javt javt) cZ (bodyQ (by unfold bodyV;rw [if_pos (by omega)]) (fun _=>rfl))
 refine jU 5126 ?_;refine jcc (fun h33=>?_) fun h33=>?_
 ·refine jU 501006 ?_
  refine jqe (jecP (rput04_ac v.n hv.n.1 hv.n.2) ?_)
  refine jU 3000500070005111 ?_
  exact end_ownV (.inl rfl) [] (by decide) rfl (res_3 rfl javt javt javt) cZ (bodyQ (by unfold bodyV;rw [if_neg (by omega),if_pos (by omega)]) (fun _=>rfl))
 refine jU 5126 ?_;refine jcc (fun h35=>?_) fun h35=>?_
 ·exfalso;omega
 refine jU 5126 ?_;refine jcc (fun h40=>?_) fun h40=>?_
 ·refine jcs ?_;refine jcd (.rd 0 (.rd 1 (.rd 2 (.rd 3 (.rd 4 .done))))) ?_;refine jyq (jrfa 3 1 false) ?_;refine jU 30005000700088070707010000 ?_
  exact end_ownV (.inl rfl) [] (by decide) rfl (res_3 rfl javt javt javt) cZ (bodyQ (by unfold bodyV;rw [if_neg (by omega),if_neg (by omega),if_neg (by omega),if_pos (by omega)]) (fun _=>rfl))
 refine jU 5126 ?_;refine jcc (fun h42=>?_) fun h42=>?_
 ·refine jcs ?_;refine jcd (.rd 0 (.rd 1 (.rd 3 (.rd 4 (.rd 5 (.rd 6 (.two 2 (.one 7 (.rd 8 (.rd 9 (.rd 10 .done)))) 7 (.rd 8 (.one 2 (.rd 9 (.rd 10 .done))))))))))) ?_;refine jyq (jrfa 4 1 false) ?_;refine jyo jrdo ?_;refine jyq (jrfa 4 1 false) ?_;refine jU 10000800000010000 ?_;refine jytwo ?_ ?_
  ·refine jye (jecv ?_)
   refine jye (jecP (rasked_ac v.t v.n (by omega)) ?_)
   refine jU 300050007000880707070 ?_
   exact end_ownV (.inl rfl) [] (by decide) rfl (res_3 rfl javt javt javt) cZ (bodyQ (b':=v.t) (by unfold bodyV;rw [if_neg (by omega),if_neg (by omega),if_neg (by omega),if_neg (by omega),if_pos (by omega)]) (fun h=>by rw [if_pos h]))
  ·refine jye (jecP (rasked_ac v.t v.n (by omega)) ?_)
   refine jU 70 ?_
   refine jye (jecv ?_)
   refine jU 3000500070008807070 ?_
   exact end_ownV (.inl rfl) [] (by decide) rfl (res_3 rfl javt javt javt) cZ (bodyQ (b':=v.t) (by unfold bodyV;rw [if_neg (by omega),if_neg (by omega),if_neg (by omega),if_neg (by omega),if_pos (by omega)]) (fun h=>by rw [if_pos h]))
 refine jU 5126 ?_;refine jcc (fun h44=>?_) fun h44=>?_
 ·exfalso;omega
 refine jU 5126 ?_;refine jcc (fun h50=>?_) fun h50=>?_
 rotate_left
 ·exfalso;omega
 refine jU 125010067 ?_;refine jqsp 57 (fun g51=>?_) fun g51=>?_
 ·refine jU 300050003000700051116900058000444 ?_
  exact end_ownV (.inl rfl) [] (by decide) rfl (res_3 rfl javt javt javt) (CEnt.tup3 cZ cN cZ) (bodyQ (e:=1) (by unfold bodyV;rw [if_neg (by omega),if_neg (by omega),if_neg (by omega),if_neg (by omega),if_neg (by omega),if_neg (by omega),if_pos (by omega)];unfold ofE;rw [if_neg (by unfold inT;omega),if_neg (by unfold inT;omega)]) (fun h=>by cases h))
 refine jU 5500250100 ?_;refine jcc (fun h51=>?_) fun h51=>?_
 ·refine jU 300050003000700051116 ?_
  exact end_ownV (.inl rfl) [] (by decide) rfl (res_3 rfl javt javt javt) (CEnt.tup3 cZ cN cZ) (bodyQ (e:=1) (by unfold bodyV;rw [if_neg (by omega),if_neg (by omega),if_neg (by omega),if_neg (by omega),if_neg (by omega),if_neg (by omega),if_pos (by omega)];unfold ofE;rw [if_neg (by unfold inT;omega),if_neg (by unfold inT;omega)]) (fun h=>by cases h))
 refine jU 810 ?_
 have hin:inT v.n:=⟨by omega,by omega⟩
 refine jU 501006 ?_
 refine jqe (jecP (rof6_ac v.n hin) ?_)
 refine jqe (jecP (rtext6_ac (ofR6 v.n) (ofR_right hin).1) ?_)
 refine jU 3000500070005111 ?_
 exact end_ownV (.inl rfl) [] (by decide) rfl (res_3 rfl javt javt javt) cZ (bodyQ (e:=0) (by unfold bodyV;rw [if_neg (by omega),if_neg (by omega),if_neg (by omega),if_neg (by omega),if_neg (by omega),if_neg (by omega),if_pos (by omega)];unfold ofE;rw [if_pos hin,if_pos hin]) (fun h=>by unfold ofM;rw [if_pos hin]))
end
end Am
end Go.Proofs.YthlpfjnkieaeeaaGreatDoor
