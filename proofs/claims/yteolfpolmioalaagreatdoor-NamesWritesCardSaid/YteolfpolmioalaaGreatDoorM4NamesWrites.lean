/- What the law leans on, part 4: W04n, P03n, P08, W03r, W03s, W07s, W07t, W07u, W08j, W04r, W08u, W08k, ShelfS, W07v, W08l, W04s, W05 -/
import Derived.Test.YteolfpolmioalaaGreatDoorM3NamesWrites
import Derived.Shelf.SlSortCmp.Kit1
import Derived.Shelf.SlSortCmp.NoneTotal
import Derived.Ground.SlsfProg
import Derived.Test.YteolfpolmioalaaGreatDoorProg

set_option maxRecDepth 100000
namespace Go.Proofs.YteolfpolmioalaaGreatDoor
set_option linter.unusedVariables false
namespace Am
section
variable {gs:List Nat} [Ok9 gs]
open Go.RowKit

theorem settled_ac {gs:List Nat} (h r:Int):ACp gs Tryz.prog 100 [.c (.int .u8 h),.c (.int .i64 r)] (.c (.bool ((r == 0 && decide (h<128)) || (r == -1 && decide (128≤h))))):=by
 refine ac_of 19 Tryz.func100 rfl rfl rfl (fun al w0 F0 St0=>?_)
 refine jcr ?_;refine jq jrm ?_;refine jN ?_;refine jcr ?_;refine jq jrm ?_;refine jq jrc ?_;refine jq jrm ?_;refine jqsp 7 (fun g28=>?_) fun g28=>?_
 rotate_left
 ·refine jqs ?_;refine jqs ?_;refine jq jrpF ?_;refine jq jrm ?_;refine jq jrm ?_;refine jq jrc ?_;refine jq jrm ?_;refine jqsp 14 (fun g28_2=>?_) fun g28_2=>?_
  ·refine jq jrm ?_;refine jq jrc ?_;refine jq jrpT ?_;refine jq jrpF ?_;refine jq jrm ?_;refine jN ?_
   refine jR (jrt (hv:=?_))
   (refine CEnt.bool ?_;simp [*];done)
  refine jqs ?_;refine jqs ?_;refine jq jrpF ?_;refine jq jrpF ?_;refine jq jrm ?_;refine jN ?_
  refine jR (jrt (hv:=?_))
  (refine CEnt.bool ?_;simp [*];done)
 refine jq jrm ?_;refine jq jrc ?_;refine jq jrpT ?_;refine jq jrm ?_;refine jqsp 11 (fun g28_2=>?_) fun g28_2=>?_
 ·refine jqs ?_;refine jqs ?_;refine jqs ?_;refine jqs ?_;refine jqs ?_;refine jqs ?_;refine jq jrpT ?_;refine jq jrm ?_;refine jN ?_
  refine jR (jrt (hv:=?_))
  (refine CEnt.bool ?_;simp [*];done)
 refine jq jrm ?_;refine jq jrc ?_;refine jq jrm ?_;refine jqsp 14 (fun g28_3=>?_) fun g28_3=>?_
 ·refine jq jrm ?_;refine jq jrc ?_;refine jq jrpT ?_;refine jq jrpF ?_;refine jq jrm ?_;refine jN ?_
  refine jR (jrt (hv:=?_))
  omega
 refine jqs ?_;refine jqs ?_;refine jq jrpF ?_;refine jq jrpF ?_;refine jq jrm ?_;refine jN ?_
 refine jR (jrt (hv:=?_))
 (refine CEnt.bool ?_;simp [*];done)
theorem i8_sgn (c:UInt8):IntKind.i8.wrap ((c.toNat:Nat):Int)=sgn c:=by
 have:=c.toNat_lt
 have e:IntKind.i8.wrap (c.toNat:Int)=((c.toNat:Int)+128) % 256-128:=by simp [IntKind.wrap,IntKind.bits,IntKind.signed];omega
 rw [e]
 unfold sgn
 split <;> omega
theorem sgn_bd (c:UInt8):-128≤sgn c∧sgn c≤127:=by
 have:=c.toNat_lt
 unfold sgn
 split <;> omega
theorem idle_of {l:List UInt8} (h:1<l.length):idle l=true↔((l.getD 0 0).toNat=0∧(l.getD 1 0).toNat<128)∨((l.getD 0 0).toNat=255∧128≤(l.getD 1 0).toNat):=by
 rw [idle_get l h]
 simp only [Bool.or_eq_true,Bool.and_eq_true,beq_iff_eq,decide_eq_true_eq]
set_option maxHeartbeats 1000000 in
theorem wget_ac (l:List UInt8):ACp gs Tryz.prog 114 [bsC l] (.tup 2 (fl [.c (.int .i64 (getM l).1),.err (getM l).2])):=by
 refine ac_len 0 rfl fun hlen=>?_
 have hsg:=sgn_bd (l.getD 0 0)
 have hid:=fun h=>idle_of (l:=l) h
 refine ac_of 65 Tryz.func114 rfl rfl rfl (fun al w0 F0 St0=>?_)
 refine jcr ?_;refine jq jrm ?_;refine jq jrm ?_;refine jN ?_;refine jcs ?_;refine jB ?_;refine jcr ?_;refine jq jrm ?_;refine jq jrl ?_;refine jq jrc ?_;refine jq jrm ?_;refine jN ?_;refine jcc (fun h34=>?_) fun h34=>?_
 ·refine jcs ?_;refine jcd (.rd 0 (.rd 1 (.rd 2 .done))) ?_;refine jyq (jrde 1) ?_;refine jyq jrm ?_;refine jyq jrm ?_;refine jyd ?_;refine jtn ?_
  refine jR (jbr (jtr (jrt (hv:=?_))))
  have hb:getM l=(0,2):=by unfold getM;rw [if_pos (by omega)]
  rw [hb];exact cZ
 refine jcr ?_;refine jq jrm ?_;refine jq jrl ?_;refine jq jrc ?_;refine jq jrm ?_;refine jqsp 16 (fun g36=>?_) fun g36=>?_
 rotate_left
 ·refine jqs ?_;refine jqs ?_;refine jqs ?_;refine jqs ?_;refine jqs ?_;refine jqs ?_;refine jqs ?_;refine jqs ?_;refine jqs ?_;refine jqs ?_;refine jqs ?_;refine jqs ?_;refine jqs ?_;refine jqs ?_;refine jqs ?_;refine jqs ?_;refine jqs ?_;refine jqs ?_;refine jqs ?_;refine jqs ?_;refine jqs ?_;refine jqs ?_;refine jq jrpF ?_;refine jq jrm ?_;refine jN ?_;refine jcF ?_
  have hni:¬ idle l=true:=by
   by_cases h1:1<l.length
   ·rw [hid h1];omega
   ·rw [idle_short l (by omega)];exact Bool.noConfusion
  refine jcr ?_;refine jq jrm ?_;refine jq jrl ?_;refine jq jrc ?_;refine jq jrm ?_;refine jN ?_;refine jcc (fun h38=>?_) fun h38=>?_
  ·refine jcs ?_;refine jcd (.rd 0 (.rd 1 (.rd 2 .done))) ?_;refine jyq (jrde 0) ?_;refine jyq jrm ?_;refine jyq jrm ?_;refine jyd ?_;refine jtn ?_
   refine jR (jbr (jtr (jrt (hv:=?_))))
   have hb:getM l=(0,1):=by unfold getM;rw [if_neg (by omega),if_neg hni,if_pos (by omega)]
   rw [hb];exact cZ
  refine jS (jbn (jtn ?_))
  refine jcr ?_;refine jq jrm ?_;refine jq (jri (i:=0)) ?_;refine jq jrdr ?_;refine jq (rd_convI rfl rfl Tryz.underlying5 Tryz.underlying192 (sgn (l.getD 0 0)) (i8_sgn _)) ?_;refine jq (rd_convI rfl rfl Tryz.underlying192 Tryz.underlying3 (sgn (l.getD 0 0)) (wrap_id (k:=.i64) (by show _∧_;omega))) ?_;refine jq jrm ?_;refine jN ?_;refine jcs ?_
  have hb:getM l=(valS l,0):=by unfold getM;rw [if_neg (by omega),if_neg hni,if_neg (by omega)]
  have hv1:=valS_take_one l (by omega)
  refine jcr ?_;refine jq jrm ?_;refine jq (jrsf (hz1:=(show (1:Int)=((1:Nat):Int) from rfl))) ?_;refine jq jrl ?_;refine jq jrm ?_;refine jN ?_;refine jB ?_;refine l_loop (α:=Nat) [4,6,54,55,56,57,58,59,60,61,62,63] (fun i=>[(54,.c (.int .i64 (i:Nat))),(4,.c (.int .i64 (valS (l.take (i+1)))))]) (fun _=>[]) (fun i=>i+1≤l.length) (fun i=>l.length-i) (0) ?_ (fun _=>rfl) ?_ ?_ ?_
  ·show 0+1≤l.length;omega
  ·exact .cons cZ (.cons (CEnt.int hv1.symm) .nil)
  ·(repeat (first|exact HEnt.nil|refine HEnt.same ?_|refine HEnt.blk rfl (fun j hj=>by rcases j with _|_|_|_|_|_|_|_|j <;> first|exact cZ|exact CEnt.int (by omega)|omega) ?_))
  ·rintro i (hi:i+1≤l.length)
   have hb:getM l=(valS l,0):=by unfold getM;rw [if_neg (by omega),if_neg hni,if_neg (by omega)]
   have hv1:=valS_take_one l (by omega)
   refine jcr ?_;refine jq jrc ?_;refine jN ?_;refine jcs ?_;refine jcc (fun h42=>?_) fun h42=>?_
   rotate_left
   ·refine jX (jte (jte (jbx (jtn ?_))))
    refine jcr ?_;refine jq jrm ?_;refine jq jrm ?_;refine jq jrm ?_;refine jN ?_
    refine jR (jrt (hv:=?_))
    have hil:i+1=l.length:=by simp only [List.length_drop] at *;omega
    rw [hb,hil,List.take_length];exact CEnt.tup2 cZ (CEnt.nilE rfl)
   refine jS (jtn ?_)
   refine jcs ?_;refine jB ?_
   have hb:getM l=(valS l,0):=by unfold getM;rw [if_neg (by omega),if_neg hni,if_neg (by omega)]
   have hv1:=valS_take_one l (by omega)
   refine jcr ?_;refine jq (jri (i:=i) (hz:=by omega)) ?_;refine jq jrdr ?_;refine jq jrm ?_;refine jN ?_
   have hdl:(l.drop 1).length=l.length-1:=List.length_drop
   have hde:(l.drop 1).getD i 0=l.getD (i+1) 0:=by simp [List.getD,Nat.add_comm]
   have hvs:=valS_take_succ l i (by omega)
   have hsm:=valS_small (l.take (i+1)) (by rw [List.length_take];omega)
   have hcl:=(l.getD (i+1) 0).toNat_lt
   have hcd:=((l.drop 1).getD i 0).toNat_lt
   refine jcg ?_;refine jq jrm ?_;refine jq (rd_shl rfl rfl rfl (by (omega)) ((valS (l.take (i+1)) * 256)) ((by show IntKind.i64.wrap (valS (l.take (i+1)) * 256)=_;exact wrap_id (k:=.i64) (by show _∧_;omega)))) ?_;refine jq jrm ?_;refine jq (rd_convI rfl rfl Tryz.underlying5 Tryz.underlying3 ((((l.drop 1).getD i 0).toNat:Nat)) (wrap_id (k:=.i64) (by show _∧_;omega))) ?_;refine jq (rd_or rfl rfl rfl (valS (l.take (i+1+1))) ((by rw [hde,hvs];exact i64_join _ _ (by omega) (by omega) (by omega) (by omega)))) ?_;refine jq jrm ?_;refine jN ?_
   refine jbn (jtn ?_)
   have hb:getM l=(valS l,0):=by unfold getM;rw [if_neg (by omega),if_neg hni,if_neg (by omega)]
   have hv1:=valS_take_one l (by omega)
   refine jcg ?_;refine jq jra ?_;refine jq jrm ?_;refine jN ?_;refine jtn ?_
   refine jlend (i+1) ?_ ?_ (h5:=?_)
   ·show i+1+1≤l.length;omega
   ·show l.length-(i+1)<l.length-i;omega
   ·exact .cons (CEnt.int (by omega)) (.cons cZ .nil)
 refine jq jrm ?_;refine jq (jri (i:=0)) ?_;refine jq jrdr ?_;refine jq jrc ?_;refine jq jrm ?_;refine jqsp 21 (fun g36_2=>?_) fun g36_2=>?_
 rotate_left
 ·refine jqs ?_;refine jqs ?_;refine jqs ?_;refine jqs ?_;refine jq jrpF ?_;refine jq jrm ?_;refine jq jrm ?_;refine jq (jri (i:=0)) ?_;refine jq jrdr ?_;refine jq jrc ?_;refine jq jrm ?_;refine jqsp 32 (fun g36_3=>?_) fun g36_3=>?_
  rotate_left
  ·refine jqs ?_;refine jqs ?_;refine jqs ?_;refine jqs ?_;refine jq jrpF ?_;refine jq jrpF ?_;refine jq jrpT ?_;refine jq jrm ?_;refine jN ?_;refine jcF ?_
   have hni:¬ idle l=true:=by
    by_cases h1:1<l.length
    ·rw [hid h1];omega
    ·rw [idle_short l (by omega)];exact Bool.noConfusion
   refine jcr ?_;refine jq jrm ?_;refine jq jrl ?_;refine jq jrc ?_;refine jq jrm ?_;refine jN ?_;refine jcc (fun h38=>?_) fun h38=>?_
   ·refine jcs ?_;refine jcd (.rd 0 (.rd 1 (.rd 2 .done))) ?_;refine jyq (jrde 0) ?_;refine jyq jrm ?_;refine jyq jrm ?_;refine jyd ?_;refine jtn ?_
    refine jR (jbr (jtr (jrt (hv:=?_))))
    have hb:getM l=(0,1):=by unfold getM;rw [if_neg (by omega),if_neg hni,if_pos (by omega)]
    rw [hb];exact cZ
   refine jS (jbn (jtn ?_))
   refine jcr ?_;refine jq jrm ?_;refine jq (jri (i:=0)) ?_;refine jq jrdr ?_;refine jq (rd_convI rfl rfl Tryz.underlying5 Tryz.underlying192 (sgn (l.getD 0 0)) (i8_sgn _)) ?_;refine jq (rd_convI rfl rfl Tryz.underlying192 Tryz.underlying3 (sgn (l.getD 0 0)) (wrap_id (k:=.i64) (by show _∧_;omega))) ?_;refine jq jrm ?_;refine jN ?_;refine jcs ?_
   have hb:getM l=(valS l,0):=by unfold getM;rw [if_neg (by omega),if_neg hni,if_neg (by omega)]
   have hv1:=valS_take_one l (by omega)
   refine jcr ?_;refine jq jrm ?_;refine jq (jrsf (hz1:=(show (1:Int)=((1:Nat):Int) from rfl))) ?_;refine jq jrl ?_;refine jq jrm ?_;refine jN ?_;refine jB ?_;refine l_loop (α:=Nat) [4,6,54,55,56,57,58,59,60,61,62,63] (fun i=>[(54,.c (.int .i64 (i:Nat))),(4,.c (.int .i64 (valS (l.take (i+1)))))]) (fun _=>[]) (fun i=>i+1≤l.length) (fun i=>l.length-i) (0) ?_ (fun _=>rfl) ?_ ?_ ?_
   ·show 0+1≤l.length;omega
   ·exact .cons cZ (.cons (CEnt.int hv1.symm) .nil)
   ·(repeat (first|exact HEnt.nil|refine HEnt.same ?_|refine HEnt.blk rfl (fun j hj=>by rcases j with _|_|_|_|_|_|_|_|j <;> first|exact cZ|exact CEnt.int (by omega)|omega) ?_))
   ·rintro i (hi:i+1≤l.length)
    have hb:getM l=(valS l,0):=by unfold getM;rw [if_neg (by omega),if_neg hni,if_neg (by omega)]
    have hv1:=valS_take_one l (by omega)
    refine jcr ?_;refine jq jrc ?_;refine jN ?_;refine jcs ?_;refine jcc (fun h42=>?_) fun h42=>?_
    rotate_left
    ·refine jX (jte (jte (jbx (jtn ?_))))
     refine jcr ?_;refine jq jrm ?_;refine jq jrm ?_;refine jq jrm ?_;refine jN ?_
     refine jR (jrt (hv:=?_))
     have hil:i+1=l.length:=by simp only [List.length_drop] at *;omega
     rw [hb,hil,List.take_length];exact CEnt.tup2 cZ (CEnt.nilE rfl)
    refine jS (jtn ?_)
    refine jcs ?_;refine jB ?_
    have hb:getM l=(valS l,0):=by unfold getM;rw [if_neg (by omega),if_neg hni,if_neg (by omega)]
    have hv1:=valS_take_one l (by omega)
    refine jcr ?_;refine jq (jri (i:=i) (hz:=by omega)) ?_;refine jq jrdr ?_;refine jq jrm ?_;refine jN ?_
    have hdl:(l.drop 1).length=l.length-1:=List.length_drop
    have hde:(l.drop 1).getD i 0=l.getD (i+1) 0:=by simp [List.getD,Nat.add_comm]
    have hvs:=valS_take_succ l i (by omega)
    have hsm:=valS_small (l.take (i+1)) (by rw [List.length_take];omega)
    have hcl:=(l.getD (i+1) 0).toNat_lt
    have hcd:=((l.drop 1).getD i 0).toNat_lt
    refine jcg ?_;refine jq jrm ?_;refine jq (rd_shl rfl rfl rfl (by (omega)) ((valS (l.take (i+1)) * 256)) ((by show IntKind.i64.wrap (valS (l.take (i+1)) * 256)=_;exact wrap_id (k:=.i64) (by show _∧_;omega)))) ?_;refine jq jrm ?_;refine jq (rd_convI rfl rfl Tryz.underlying5 Tryz.underlying3 ((((l.drop 1).getD i 0).toNat:Nat)) (wrap_id (k:=.i64) (by show _∧_;omega))) ?_;refine jq (rd_or rfl rfl rfl (valS (l.take (i+1+1))) ((by rw [hde,hvs];exact i64_join _ _ (by omega) (by omega) (by omega) (by omega)))) ?_;refine jq jrm ?_;refine jN ?_
    refine jbn (jtn ?_)
    have hb:getM l=(valS l,0):=by unfold getM;rw [if_neg (by omega),if_neg hni,if_neg (by omega)]
    have hv1:=valS_take_one l (by omega)
    refine jcg ?_;refine jq jra ?_;refine jq jrm ?_;refine jN ?_;refine jtn ?_
    refine jlend (i+1) ?_ ?_ (h5:=?_)
    ·show i+1+1≤l.length;omega
    ·show l.length-(i+1)<l.length-i;omega
    ·exact .cons (CEnt.int (by omega)) (.cons cZ .nil)
  refine jq jrm ?_;refine jq (jri (i:=1)) ?_;refine jq jrdr ?_;refine jq jrc ?_;refine jq jrpT ?_;refine jq jrpF ?_;refine jq jrpT ?_;refine jq jrm ?_;refine jN ?_;refine jcc (fun h36=>?_) fun h36=>?_
  ·refine jcs ?_;refine jcd (.rd 0 (.rd 1 (.rd 2 .done))) ?_;refine jyq (jrde 3) ?_;refine jyq jrm ?_;refine jyq jrm ?_;refine jyd ?_;refine jtn ?_
   refine jR (jbr (jtr (jrt (hv:=?_))))
   have hb:getM l=(0,4):=by unfold getM;rw [if_neg (by omega),if_pos ((hid (by omega)).2 (by omega))]
   rw [hb];exact cZ
  have hni:¬ idle l=true:=by
   by_cases h1:1<l.length
   ·rw [hid h1];omega
   ·rw [idle_short l (by omega)];exact Bool.noConfusion
  refine jcr ?_;refine jq jrm ?_;refine jq jrl ?_;refine jq jrc ?_;refine jq jrm ?_;refine jN ?_;refine jcc (fun h38=>?_) fun h38=>?_
  ·refine jcs ?_;refine jcd (.rd 0 (.rd 1 (.rd 2 .done))) ?_;refine jyq (jrde 0) ?_;refine jyq jrm ?_;refine jyq jrm ?_;refine jyd ?_;refine jtn ?_
   refine jR (jbr (jtr (jrt (hv:=?_))))
   have hb:getM l=(0,1):=by unfold getM;rw [if_neg (by omega),if_neg hni,if_pos (by omega)]
   rw [hb];exact cZ
  refine jS (jbn (jtn ?_))
  refine jcr ?_;refine jq jrm ?_;refine jq (jri (i:=0)) ?_;refine jq jrdr ?_;refine jq (rd_convI rfl rfl Tryz.underlying5 Tryz.underlying192 (sgn (l.getD 0 0)) (i8_sgn _)) ?_;refine jq (rd_convI rfl rfl Tryz.underlying192 Tryz.underlying3 (sgn (l.getD 0 0)) (wrap_id (k:=.i64) (by show _∧_;omega))) ?_;refine jq jrm ?_;refine jN ?_;refine jcs ?_
  have hb:getM l=(valS l,0):=by unfold getM;rw [if_neg (by omega),if_neg hni,if_neg (by omega)]
  have hv1:=valS_take_one l (by omega)
  refine jcr ?_;refine jq jrm ?_;refine jq (jrsf (hz1:=(show (1:Int)=((1:Nat):Int) from rfl))) ?_;refine jq jrl ?_;refine jq jrm ?_;refine jN ?_;refine jB ?_;refine l_loop (α:=Nat) [4,6,54,55,56,57,58,59,60,61,62,63] (fun i=>[(54,.c (.int .i64 (i:Nat))),(4,.c (.int .i64 (valS (l.take (i+1)))))]) (fun _=>[]) (fun i=>i+1≤l.length) (fun i=>l.length-i) (0) ?_ (fun _=>rfl) ?_ ?_ ?_
  ·show 0+1≤l.length;omega
  ·exact .cons cZ (.cons (CEnt.int hv1.symm) .nil)
  ·(repeat (first|exact HEnt.nil|refine HEnt.same ?_|refine HEnt.blk rfl (fun j hj=>by rcases j with _|_|_|_|_|_|_|_|j <;> first|exact cZ|exact CEnt.int (by omega)|omega) ?_))
  ·rintro i (hi:i+1≤l.length)
   have hb:getM l=(valS l,0):=by unfold getM;rw [if_neg (by omega),if_neg hni,if_neg (by omega)]
   have hv1:=valS_take_one l (by omega)
   refine jcr ?_;refine jq jrc ?_;refine jN ?_;refine jcs ?_;refine jcc (fun h42=>?_) fun h42=>?_
   rotate_left
   ·refine jX (jte (jte (jbx (jtn ?_))))
    refine jcr ?_;refine jq jrm ?_;refine jq jrm ?_;refine jq jrm ?_;refine jN ?_
    refine jR (jrt (hv:=?_))
    have hil:i+1=l.length:=by simp only [List.length_drop] at *;omega
    rw [hb,hil,List.take_length];exact CEnt.tup2 cZ (CEnt.nilE rfl)
   refine jS (jtn ?_)
   refine jcs ?_;refine jB ?_
   have hb:getM l=(valS l,0):=by unfold getM;rw [if_neg (by omega),if_neg hni,if_neg (by omega)]
   have hv1:=valS_take_one l (by omega)
   refine jcr ?_;refine jq (jri (i:=i) (hz:=by omega)) ?_;refine jq jrdr ?_;refine jq jrm ?_;refine jN ?_
   have hdl:(l.drop 1).length=l.length-1:=List.length_drop
   have hde:(l.drop 1).getD i 0=l.getD (i+1) 0:=by simp [List.getD,Nat.add_comm]
   have hvs:=valS_take_succ l i (by omega)
   have hsm:=valS_small (l.take (i+1)) (by rw [List.length_take];omega)
   have hcl:=(l.getD (i+1) 0).toNat_lt
   have hcd:=((l.drop 1).getD i 0).toNat_lt
   refine jcg ?_;refine jq jrm ?_;refine jq (rd_shl rfl rfl rfl (by (omega)) ((valS (l.take (i+1)) * 256)) ((by show IntKind.i64.wrap (valS (l.take (i+1)) * 256)=_;exact wrap_id (k:=.i64) (by show _∧_;omega)))) ?_;refine jq jrm ?_;refine jq (rd_convI rfl rfl Tryz.underlying5 Tryz.underlying3 ((((l.drop 1).getD i 0).toNat:Nat)) (wrap_id (k:=.i64) (by show _∧_;omega))) ?_;refine jq (rd_or rfl rfl rfl (valS (l.take (i+1+1))) ((by rw [hde,hvs];exact i64_join _ _ (by omega) (by omega) (by omega) (by omega)))) ?_;refine jq jrm ?_;refine jN ?_
   refine jbn (jtn ?_)
   have hb:getM l=(valS l,0):=by unfold getM;rw [if_neg (by omega),if_neg hni,if_neg (by omega)]
   have hv1:=valS_take_one l (by omega)
   refine jcg ?_;refine jq jra ?_;refine jq jrm ?_;refine jN ?_;refine jtn ?_
   refine jlend (i+1) ?_ ?_ (h5:=?_)
   ·show i+1+1≤l.length;omega
   ·show l.length-(i+1)<l.length-i;omega
   ·exact .cons (CEnt.int (by omega)) (.cons cZ .nil)
 refine jq jrm ?_;refine jq (jri (i:=1)) ?_;refine jq jrdr ?_;refine jq jrc ?_;refine jq jrpT ?_;refine jq jrm ?_;refine jqsp 27 (fun g36_3=>?_) fun g36_3=>?_
 ·refine jqs ?_;refine jqs ?_;refine jqs ?_;refine jqs ?_;refine jqs ?_;refine jqs ?_;refine jqs ?_;refine jqs ?_;refine jqs ?_;refine jqs ?_;refine jq jrpT ?_;refine jq jrpT ?_;refine jq jrm ?_;refine jN ?_;refine jcT ?_;refine jcs ?_;refine jcd (.rd 0 (.rd 1 (.rd 2 .done))) ?_;refine jyq (jrde 3) ?_;refine jyq jrm ?_;refine jyq jrm ?_;refine jyd ?_;refine jtn ?_
  refine jR (jbr (jtr (jrt (hv:=?_))))
  have hb:getM l=(0,4):=by unfold getM;rw [if_neg (by omega),if_pos ((hid (by omega)).2 (by omega))]
  rw [hb];exact cZ
 refine jq jrm ?_;refine jq (jri (i:=0)) ?_;refine jq jrdr ?_;refine jq jrc ?_;refine jq jrm ?_;refine jqsp 32 (fun g36_4=>?_) fun g36_4=>?_
 rotate_left
 ·refine jqs ?_;refine jqs ?_;refine jqs ?_;refine jqs ?_;refine jq jrpF ?_;refine jq jrpF ?_;refine jq jrpT ?_;refine jq jrm ?_;refine jN ?_;refine jcF ?_
  have hni:¬ idle l=true:=by
   by_cases h1:1<l.length
   ·rw [hid h1];omega
   ·rw [idle_short l (by omega)];exact Bool.noConfusion
  refine jcr ?_;refine jq jrm ?_;refine jq jrl ?_;refine jq jrc ?_;refine jq jrm ?_;refine jN ?_;refine jcc (fun h38=>?_) fun h38=>?_
  ·refine jcs ?_;refine jcd (.rd 0 (.rd 1 (.rd 2 .done))) ?_;refine jyq (jrde 0) ?_;refine jyq jrm ?_;refine jyq jrm ?_;refine jyd ?_;refine jtn ?_
   refine jR (jbr (jtr (jrt (hv:=?_))))
   have hb:getM l=(0,1):=by unfold getM;rw [if_neg (by omega),if_neg hni,if_pos (by omega)]
   rw [hb];exact cZ
  refine jS (jbn (jtn ?_))
  refine jcr ?_;refine jq jrm ?_;refine jq (jri (i:=0)) ?_;refine jq jrdr ?_;refine jq (rd_convI rfl rfl Tryz.underlying5 Tryz.underlying192 (sgn (l.getD 0 0)) (i8_sgn _)) ?_;refine jq (rd_convI rfl rfl Tryz.underlying192 Tryz.underlying3 (sgn (l.getD 0 0)) (wrap_id (k:=.i64) (by show _∧_;omega))) ?_;refine jq jrm ?_;refine jN ?_;refine jcs ?_
  have hb:getM l=(valS l,0):=by unfold getM;rw [if_neg (by omega),if_neg hni,if_neg (by omega)]
  have hv1:=valS_take_one l (by omega)
  refine jcr ?_;refine jq jrm ?_;refine jq (jrsf (hz1:=(show (1:Int)=((1:Nat):Int) from rfl))) ?_;refine jq jrl ?_;refine jq jrm ?_;refine jN ?_;refine jB ?_;refine l_loop (α:=Nat) [4,6,54,55,56,57,58,59,60,61,62,63] (fun i=>[(54,.c (.int .i64 (i:Nat))),(4,.c (.int .i64 (valS (l.take (i+1)))))]) (fun _=>[]) (fun i=>i+1≤l.length) (fun i=>l.length-i) (0) ?_ (fun _=>rfl) ?_ ?_ ?_
  ·show 0+1≤l.length;omega
  ·exact .cons cZ (.cons (CEnt.int hv1.symm) .nil)
  ·(repeat (first|exact HEnt.nil|refine HEnt.same ?_|refine HEnt.blk rfl (fun j hj=>by rcases j with _|_|_|_|_|_|_|_|j <;> first|exact cZ|exact CEnt.int (by omega)|omega) ?_))
  ·rintro i (hi:i+1≤l.length)
   have hb:getM l=(valS l,0):=by unfold getM;rw [if_neg (by omega),if_neg hni,if_neg (by omega)]
   have hv1:=valS_take_one l (by omega)
   refine jcr ?_;refine jq jrc ?_;refine jN ?_;refine jcs ?_;refine jcc (fun h42=>?_) fun h42=>?_
   rotate_left
   ·refine jX (jte (jte (jbx (jtn ?_))))
    refine jcr ?_;refine jq jrm ?_;refine jq jrm ?_;refine jq jrm ?_;refine jN ?_
    refine jR (jrt (hv:=?_))
    have hil:i+1=l.length:=by simp only [List.length_drop] at *;omega
    rw [hb,hil,List.take_length];exact CEnt.tup2 cZ (CEnt.nilE rfl)
   refine jS (jtn ?_)
   refine jcs ?_;refine jB ?_
   have hb:getM l=(valS l,0):=by unfold getM;rw [if_neg (by omega),if_neg hni,if_neg (by omega)]
   have hv1:=valS_take_one l (by omega)
   refine jcr ?_;refine jq (jri (i:=i) (hz:=by omega)) ?_;refine jq jrdr ?_;refine jq jrm ?_;refine jN ?_
   have hdl:(l.drop 1).length=l.length-1:=List.length_drop
   have hde:(l.drop 1).getD i 0=l.getD (i+1) 0:=by simp [List.getD,Nat.add_comm]
   have hvs:=valS_take_succ l i (by omega)
   have hsm:=valS_small (l.take (i+1)) (by rw [List.length_take];omega)
   have hcl:=(l.getD (i+1) 0).toNat_lt
   have hcd:=((l.drop 1).getD i 0).toNat_lt
   refine jcg ?_;refine jq jrm ?_;refine jq (rd_shl rfl rfl rfl (by (omega)) ((valS (l.take (i+1)) * 256)) ((by show IntKind.i64.wrap (valS (l.take (i+1)) * 256)=_;exact wrap_id (k:=.i64) (by show _∧_;omega)))) ?_;refine jq jrm ?_;refine jq (rd_convI rfl rfl Tryz.underlying5 Tryz.underlying3 ((((l.drop 1).getD i 0).toNat:Nat)) (wrap_id (k:=.i64) (by show _∧_;omega))) ?_;refine jq (rd_or rfl rfl rfl (valS (l.take (i+1+1))) ((by rw [hde,hvs];exact i64_join _ _ (by omega) (by omega) (by omega) (by omega)))) ?_;refine jq jrm ?_;refine jN ?_
   refine jbn (jtn ?_)
   have hb:getM l=(valS l,0):=by unfold getM;rw [if_neg (by omega),if_neg hni,if_neg (by omega)]
   have hv1:=valS_take_one l (by omega)
   refine jcg ?_;refine jq jra ?_;refine jq jrm ?_;refine jN ?_;refine jtn ?_
   refine jlend (i+1) ?_ ?_ (h5:=?_)
   ·show i+1+1≤l.length;omega
   ·show l.length-(i+1)<l.length-i;omega
   ·exact .cons (CEnt.int (by omega)) (.cons cZ .nil)
 refine jq jrm ?_;refine jq (jri (i:=1)) ?_;refine jq jrdr ?_;refine jq jrc ?_;refine jq jrpT ?_;refine jq jrpF ?_;refine jq jrpT ?_;refine jq jrm ?_;refine jN ?_;refine jcc (fun h36=>?_) fun h36=>?_
 ·refine jcs ?_;refine jcd (.rd 0 (.rd 1 (.rd 2 .done))) ?_;refine jyq (jrde 3) ?_;refine jyq jrm ?_;refine jyq jrm ?_;refine jyd ?_;refine jtn ?_
  refine jR (jbr (jtr (jrt (hv:=?_))))
  have hb:getM l=(0,4):=by unfold getM;rw [if_neg (by omega),if_pos ((hid (by omega)).2 (by omega))]
  rw [hb];exact cZ
 have hni:¬ idle l=true:=by
  by_cases h1:1<l.length
  ·rw [hid h1];omega
  ·rw [idle_short l (by omega)];exact Bool.noConfusion
 refine jcr ?_;refine jq jrm ?_;refine jq jrl ?_;refine jq jrc ?_;refine jq jrm ?_;refine jN ?_;refine jcc (fun h38=>?_) fun h38=>?_
 ·refine jcs ?_;refine jcd (.rd 0 (.rd 1 (.rd 2 .done))) ?_;refine jyq (jrde 0) ?_;refine jyq jrm ?_;refine jyq jrm ?_;refine jyd ?_;refine jtn ?_
  refine jR (jbr (jtr (jrt (hv:=?_))))
  have hb:getM l=(0,1):=by unfold getM;rw [if_neg (by omega),if_neg hni,if_pos (by omega)]
  rw [hb];exact cZ
 refine jS (jbn (jtn ?_))
 refine jcr ?_;refine jq jrm ?_;refine jq (jri (i:=0)) ?_;refine jq jrdr ?_;refine jq (rd_convI rfl rfl Tryz.underlying5 Tryz.underlying192 (sgn (l.getD 0 0)) (i8_sgn _)) ?_;refine jq (rd_convI rfl rfl Tryz.underlying192 Tryz.underlying3 (sgn (l.getD 0 0)) (wrap_id (k:=.i64) (by show _∧_;omega))) ?_;refine jq jrm ?_;refine jN ?_;refine jcs ?_
 have hb:getM l=(valS l,0):=by unfold getM;rw [if_neg (by omega),if_neg hni,if_neg (by omega)]
 have hv1:=valS_take_one l (by omega)
 refine jcr ?_;refine jq jrm ?_;refine jq (jrsf (hz1:=(show (1:Int)=((1:Nat):Int) from rfl))) ?_;refine jq jrl ?_;refine jq jrm ?_;refine jN ?_;refine jB ?_;refine l_loop (α:=Nat) [4,6,54,55,56,57,58,59,60,61,62,63] (fun i=>[(54,.c (.int .i64 (i:Nat))),(4,.c (.int .i64 (valS (l.take (i+1)))))]) (fun _=>[]) (fun i=>i+1≤l.length) (fun i=>l.length-i) (0) ?_ (fun _=>rfl) ?_ ?_ ?_
 ·show 0+1≤l.length;omega
 ·exact .cons cZ (.cons (CEnt.int hv1.symm) .nil)
 ·(repeat (first|exact HEnt.nil|refine HEnt.same ?_|refine HEnt.blk rfl (fun j hj=>by rcases j with _|_|_|_|_|_|_|_|j <;> first|exact cZ|exact CEnt.int (by omega)|omega) ?_))
 ·rintro i (hi:i+1≤l.length)
  have hb:getM l=(valS l,0):=by unfold getM;rw [if_neg (by omega),if_neg hni,if_neg (by omega)]
  have hv1:=valS_take_one l (by omega)
  refine jcr ?_;refine jq jrc ?_;refine jN ?_;refine jcs ?_;refine jcc (fun h42=>?_) fun h42=>?_
  rotate_left
  ·refine jX (jte (jte (jbx (jtn ?_))))
   refine jcr ?_;refine jq jrm ?_;refine jq jrm ?_;refine jq jrm ?_;refine jN ?_
   refine jR (jrt (hv:=?_))
   have hil:i+1=l.length:=by simp only [List.length_drop] at *;omega
   rw [hb,hil,List.take_length];exact CEnt.tup2 cZ (CEnt.nilE rfl)
  refine jS (jtn ?_)
  refine jcs ?_;refine jB ?_
  have hb:getM l=(valS l,0):=by unfold getM;rw [if_neg (by omega),if_neg hni,if_neg (by omega)]
  have hv1:=valS_take_one l (by omega)
  refine jcr ?_;refine jq (jri (i:=i) (hz:=by omega)) ?_;refine jq jrdr ?_;refine jq jrm ?_;refine jN ?_
  have hdl:(l.drop 1).length=l.length-1:=List.length_drop
  have hde:(l.drop 1).getD i 0=l.getD (i+1) 0:=by simp [List.getD,Nat.add_comm]
  have hvs:=valS_take_succ l i (by omega)
  have hsm:=valS_small (l.take (i+1)) (by rw [List.length_take];omega)
  have hcl:=(l.getD (i+1) 0).toNat_lt
  have hcd:=((l.drop 1).getD i 0).toNat_lt
  refine jcg ?_;refine jq jrm ?_;refine jq (rd_shl rfl rfl rfl (by (omega)) ((valS (l.take (i+1)) * 256)) ((by show IntKind.i64.wrap (valS (l.take (i+1)) * 256)=_;exact wrap_id (k:=.i64) (by show _∧_;omega)))) ?_;refine jq jrm ?_;refine jq (rd_convI rfl rfl Tryz.underlying5 Tryz.underlying3 ((((l.drop 1).getD i 0).toNat:Nat)) (wrap_id (k:=.i64) (by show _∧_;omega))) ?_;refine jq (rd_or rfl rfl rfl (valS (l.take (i+1+1))) ((by rw [hde,hvs];exact i64_join _ _ (by omega) (by omega) (by omega) (by omega)))) ?_;refine jq jrm ?_;refine jN ?_
  refine jbn (jtn ?_)
  have hb:getM l=(valS l,0):=by unfold getM;rw [if_neg (by omega),if_neg hni,if_neg (by omega)]
  have hv1:=valS_take_one l (by omega)
  refine jcg ?_;refine jq jra ?_;refine jq jrm ?_;refine jN ?_;refine jtn ?_
  refine jlend (i+1) ?_ ?_ (h5:=?_)
  ·show i+1+1≤l.length;omega
  ·show l.length-(i+1)<l.length-i;omega
  ·exact .cons (CEnt.int (by omega)) (.cons cZ .nil)
theorem wrange_ac (l:List UInt8) (least most:Int):ACp gs Tryz.prog 77 [bsC l,.c (.int .i64 least),.c (.int .i64 most)] (.tup 2 (fl [.c (.int .i64 (rangeM l least most).1),.err (rangeM l least most).2])):=by
 refine ac_of 30 Tryz.func77 rfl rfl rfl (fun al w0 F0 St0=>?_)
 refine jcr ?_;refine jq jrm ?_;refine jq jrm ?_;refine jN ?_;refine jcr ?_;refine jq jrm ?_
 refine jqe (jecP (wget_ac l) ?_)
 refine jq jrm ?_;refine jq jrx ?_;refine jq jrx ?_;refine jq jrm ?_;refine jq jrm ?_;refine jN ?_;refine jcs ?_;refine jB ?_;refine jcr ?_;refine jq jrm ?_;refine jq jre ?_;refine jq jrm ?_;refine jN ?_;refine jcc (fun h52=>?_) fun h52=>?_
 ·refine jcr ?_;refine jq jrm ?_;refine jq jrm ?_;refine jq jrm ?_;refine jN ?_
  refine jR (jbr (jtr (jrt (hv:=?_))))
  have hb:rangeM l least most=(0,(getM l).2):=by unfold rangeM;rw [if_pos (by omega)]
  rw [hb];exact cZ
 refine jcr ?_;refine jq jrm ?_;refine jq jrm ?_;refine jq jrc ?_;refine jq jrm ?_;refine jqsp 23 (fun g54=>?_) fun g54=>?_
 ·refine jqs ?_;refine jqs ?_;refine jqs ?_;refine jq jrpT ?_;refine jq jrm ?_;refine jN ?_;refine jcT ?_;refine jcs ?_;refine jcd (.rd 0 (.rd 1 (.rd 2 .done))) ?_;refine jyq (jrde 0) ?_;refine jyq jrm ?_;refine jyq jrm ?_;refine jyd ?_;refine jtn ?_
  refine jR (jbr (jtr (jrt (hv:=?_))))
  have hb:rangeM l least most=(0,1):=by unfold rangeM;rw [if_neg (by omega),if_pos (by omega)]
  rw [hb];exact cZ
 refine jq jrm ?_;refine jq jrm ?_;refine jq jrc ?_;refine jq jrpF ?_;refine jq jrm ?_;refine jN ?_;refine jcc (fun h54=>?_) fun h54=>?_
 rotate_left
 ·refine jS (jbn (jtn ?_))
  refine jcr ?_;refine jq jrm ?_;refine jq jrm ?_;refine jq jrm ?_;refine jN ?_
  refine jR (jrt (hv:=?_))
  have hb:rangeM l least most=((getM l).1,0):=by unfold rangeM;rw [if_neg (by omega),if_neg (by omega)]
  rw [hb];exact CEnt.tup2 cZ (CEnt.nilE rfl)
 refine jcs ?_;refine jcd (.rd 0 (.rd 1 (.rd 2 .done))) ?_;refine jyq (jrde 0) ?_;refine jyq jrm ?_;refine jyq jrm ?_;refine jyd ?_;refine jtn ?_
 refine jR (jbr (jtr (jrt (hv:=?_))))
 have hb:rangeM l least most=(0,1):=by unfold rangeM;rw [if_neg (by omega),if_pos (by omega)]
 rw [hb];exact cZ
def lenN (n:Int):Nat:=((List.range 8).find? fun k=>stp k n).getD 7
def putN (n:Int):List UInt8:=(digs (lenN n+1) n).reverse
theorem lenN_is {n:Int} (h1:-9223372036854775808≤n) (h2:n≤9223372036854775807):IsLen n (lenN n):=by
 unfold lenN
 have h7:=stp_seven n h1 h2
 cases e:(List.range 8).find? fun k=>stp k n with
 | none =>
  have:=List.find?_eq_none.1 e 7 (by simp)
  exact absurd h7 this
 | some k =>
  rw [List.find?_range_eq_some] at e
  obtain ⟨e1,e2,e3⟩:=e
  have:=List.mem_range.1 e2
  exact ⟨by show k≤7;omega,e1,fun j hj=>by have:=e3 j hj;simpa using this⟩
theorem putN_of {n:Int} {k:Nat} (h1:-9223372036854775808≤n) (h2:n≤9223372036854775807) (h:IsLen n k):(digs (k+1) n).reverse=putN n:=by
 unfold putN
 rw [h.unique (lenN_is h1 h2)]
theorem putN_len (n:Int) (h1:-9223372036854775808≤n) (h2:n≤9223372036854775807):1≤(putN n).length∧(putN n).length≤8:=by
 have:=(lenN_is h1 h2).1
 unfold putN
 rw [List.length_reverse,digs_length]
 omega
theorem shr8 (a:Int):a.fdiv (2 ^ (min (8:Int).toNat IntKind.i64.bits))=a / 256:=by
 show a.fdiv 256=a / 256
 rw [Int.fdiv_eq_ediv_of_nonneg a (by decide)]
theorem byte_wrap (a:Int):IntKind.u8.wrap a=((byte a).toNat:Nat):=by rw [IntKind.wrap_u8,byte_toNat]
theorem digs_last (k:Nat) (n:Int):(((digs (k+1) n).getD k 0).toNat:Int)=sh k n % 256:=by rw [digs_get _ _ _ (by omega),byte_toNat]
set_option maxHeartbeats 1000000 in
theorem wput_ac {gs:List Nat} (n:Int) (h1:-9223372036854775808≤n) (h2:n≤9223372036854775807):ACp gs Tryz.prog 64 [.c (.int .i64 n)] (bsC (putN n)):=by
 have h7:=stp_seven n h1 h2
 refine ac_of 29 Tryz.func64 rfl rfl rfl (fun al w0 F0 St0=>?_)
 refine jcr ?_;refine jq jrm ?_;refine jN ?_;refine jcr ?_;refine jq jrm ?_;refine jq (rd_convI rfl rfl Tryz.underlying3 Tryz.underlying5 ((((byte n).toNat:Nat):Int)) (byte_wrap n)) ?_
 refine jqe (jebl 1 1 zr5 fun p1=>?_)
 refine jq jrm ?_;refine jN ?_;refine jcs ?_;refine jcr ?_;refine jq jrm ?_;refine jq (rd_shr rfl rfl rfl (by (omega)) (_) (rfl)) ?_;refine jq jrm ?_;refine jN ?_;refine jB ?_;refine l_loop (α:=Nat×Option Nat) [3,4,10,11,12,13,14,15,16,17,18,19,20,21,22,23,24,25] (fun (k,g)=>[(3,.os 0 g 0 (digs (k+1) n).length 1),(4,.c (.int .i64 (sh (k+1) n)))]) (fun (k,g)=>[(g,.blk (digs (k+1) n).length (byF (digs (k+1) n)))]) (fun (k,g)=>k≤7∧∀ j,j<k→stp j n=false) (fun (k,g)=>8-k) ((0,p1)) ?_ (fun _=>rfl) ?_ ?_ ?_
 ·exact ⟨Nat.zero_le _,fun j hj=>absurd hj (Nat.not_lt_zero j)⟩
 ·exact .cons cZ (.cons (CEnt.int (shr8 n)) .nil)
 ·exact .blk rfl (fun j hj=>by obtain rfl:j=0:=(by rw [digs_length] at hj;omega);exact cZ) .nil
 ·rintro ⟨k,g⟩ ⟨(hk:k≤7),hno⟩
  have hdl:=digs_last k n
  have hdn:=digs_length (k+1) n
  refine jcs ?_;refine jcr ?_;refine jq jrm ?_;refine jq jrm ?_;refine jq jrl ?_;refine jq jra ?_;refine jq (jri (i:=k) (hz:=by omega)) ?_;refine jqo jrdo ?_;refine jq jrm ?_
  refine jqe (jecP (settled_ac (((digs (k+1) n).getD k 0).toNat:Nat) (sh (k+1) n)) ?_)
  refine jq jrn ?_;refine jN ?_;refine jcc (fun h19=>?_) fun h19=>?_
  rotate_left
  ·refine jX (jte (jte (jbx (jtn ?_))))
   have hst:stp k n=true:=by
    unfold stp
    have hh:=h19
    rw [hdl] at hh
    (simp at hh ⊢;omega)
   refine jcr ?_;refine jq jrm ?_
   refine jqm (jmcH 0 (reverse8_ac _ (digs (k+1) n) (by omega)) ?_)
   rintro _ _ ⟨rfl,rfl⟩
   refine ⟨_,_,rfl,cZ,?_⟩
   refine jN ?_;refine jcr ?_;refine jq jrm ?_;refine jq jrm ?_;refine jN ?_;refine jE (freeze 0 rfl) ?_;refine jE (thawB 2 ((digs (k+1) n).reverse) rfl rfl (by simp) rfl) ?_
   refine jR (jrt (hv:=CEnt.bs (putN_of h1 h2 ⟨hk,hst,hno⟩)))
  refine jS (jtn ?_)
  refine jcs ?_;refine jB ?_
  have hst:stp k n=false:=by
   unfold stp
   have hh:=h19
   rw [hdl] at hh
   (simp at hh ⊢;omega)
  refine jcg ?_;refine jq jrm ?_;refine jq jrm ?_;refine jq (rd_convI rfl rfl Tryz.underlying3 Tryz.underlying5 ((((byte (sh (k+1) n)).toNat:Nat):Int)) (byte_wrap _)) ?_
  refine jqe (jebl 1 1 zr5 fun p2=>?_)
  refine jqm (m_appendB (l2:=[byte (sh (k+1) n)]) rfl rfl rfl (Nat.le_refl _) (fun _ _=>cZ) (src_os rfl (.inl rfl) (by decide)) rfl (hh_bytes (.cons (CEnt.int (rfl)) .nil)) Tryz.underlying22 nu22 sz5 zr5 by5 rfl (by (simp;omega)) (leaf_fl rfl rfl) rfl rfl (fun p3=>?_))
  refine jq jrm ?_;refine jN ?_
  refine jbn (jtn ?_)
  refine jcg ?_;refine jq jrm ?_;refine jq (rd_shr rfl rfl rfl (by (omega)) (_) (rfl)) ?_;refine jq jrm ?_;refine jN ?_;refine jtn ?_
  refine jlend ((k+1,p3)) ?_ ?_ (h5:=?_) (h7:=?_)
  ·have hk7:k≠7:=fun e=>by
    rw [e] at hst;rw [hst] at h7;cases h7
   refine ⟨by omega,fun j hj=>?_⟩
   by_cases e:j=k
   ·rw [e];exact hst
   ·exact hno j (by omega)
  ·show 8-(k+1)<8-k;omega
  ·exact .cons (CEnt.osI (by rw [← digs_succ])) (.cons (CEnt.int (shr8 _)) .nil)
  ·exact .blk (by rw [← digs_succ]) (fun j hj=>CEnt.of_eq (by rw [← digs_succ])) .nil
end
section
open Go.RowKit
def fromM (b:List UInt8):Nat:=if (nextM b).e=0 then b.length-(nextM b).rest.length-(nextM b).body.length else 0
def toM (b:List UInt8):Nat:=if (nextM b).e=0 then b.length-(nextM b).rest.length else 0

theorem b8_self (a:UInt8) (n:Nat) (h:n % 256=a.toNat):b8 n=a:=by
 apply UInt8.toNat_inj.1
 rw [b8_mod,h]
theorem lenL_iff {c:UInt8} {l:List UInt8} (hl:1≤l.length∧l.length≤4) (hc:c.toNat=128+l.length):lenL (beN l)=c::l↔¬(beN l≤127∨(l.getD 0 0).toNat=0):=by
 match l,hl with
 | [x],_ =>
  have hx:=x.toNat_lt
  have e:beN [x]=x.toNat:=by simp [beN]
  rw [e]
  have c1:c=129:=UInt8.toNat_inj.1 (by rw [hc];rfl)
  subst c1
  unfold lenL
  split
  ·exact ⟨fun h=>by simp at h,fun h=>absurd (Or.inl (by omega)) h⟩
  ·exact ⟨fun _=>by simp;omega,fun _=>by rw [b8_self x _ (by omega)]⟩
 | [x,y],_ =>
  have hx:=x.toNat_lt
  have hy:=y.toNat_lt
  have e:beN [x,y]=x.toNat * 256+y.toNat:=by simp [beN]
  rw [e]
  have c1:c=130:=UInt8.toNat_inj.1 (by rw [hc];rfl)
  subst c1
  unfold lenL
  split
  ·exact ⟨fun h=>by simp at h,fun h=>absurd (Or.inl (by omega)) h⟩
  ·split
   ·exact ⟨fun h=>by simp at h,fun h=>absurd (Or.inr (by simp;omega)) h⟩
   ·rw [if_pos (by omega)]
    exact ⟨fun _=>by simp;omega,fun _=>by rw [b8_self x _ (by omega),b8_self y _ (by omega)]⟩
 | [x,y,z],_ =>
  have hx:=x.toNat_lt
  have hy:=y.toNat_lt
  have hz:=z.toNat_lt
  have e:beN [x,y,z]=(x.toNat * 256+y.toNat) * 256+z.toNat:=by simp [beN]
  rw [e]
  have c1:c=131:=UInt8.toNat_inj.1 (by rw [hc];rfl)
  subst c1
  unfold lenL
  split
  ·exact ⟨fun h=>by simp at h,fun h=>absurd (Or.inl (by omega)) h⟩
  ·split
   ·exact ⟨fun h=>by simp at h,fun h=>absurd (Or.inr (by simp;omega)) h⟩
   ·split
    ·exact ⟨fun h=>by simp at h,fun h=>absurd (Or.inr (by simp;omega)) h⟩
    ·rw [if_pos (by omega)]
     exact ⟨fun _=>by simp;omega,fun _=>by rw [b8_self x _ (by omega),b8_self y _ (by omega),b8_self z _ (by omega)]⟩
 | [x,y,z,t],_ =>
  have hx:=x.toNat_lt
  have hy:=y.toNat_lt
  have hz:=z.toNat_lt
  have ht:=t.toNat_lt
  have e:beN [x,y,z,t]=((x.toNat * 256+y.toNat) * 256+z.toNat) * 256+t.toNat:=by simp [beN]
  rw [e]
  have c1:c=132:=UInt8.toNat_inj.1 (by rw [hc];rfl)
  subst c1
  unfold lenL
  split
  ·exact ⟨fun h=>by simp at h,fun h=>absurd (Or.inl (by omega)) h⟩
  ·split
   ·exact ⟨fun h=>by simp at h,fun h=>absurd (Or.inr (by simp;omega)) h⟩
   ·split
    ·exact ⟨fun h=>by simp at h,fun h=>absurd (Or.inr (by simp;omega)) h⟩
    ·split
     ·exact ⟨fun h=>by simp at h,fun h=>absurd (Or.inr (by simp;omega)) h⟩
     ·exact ⟨fun _=>by simp;omega,fun _=>by rw [b8_self x _ (by omega),b8_self y _ (by omega),b8_self z _ (by omega),b8_self t _ (by omega)]⟩
theorem at_cons {b:List UInt8} {k:Nat} (h:1<b.length):(b.take (2+k)).drop 1=b.getD 1 0::(b.drop 2).take k:=by
 match b,h with
 | x::y::r,_=>simp [show 2+k=(k+1)+1 by omega]
theorem get_take {b:List UInt8} {k i:Nat} (h:i<k):((b.drop 2).take k).getD i 0=b.getD (2+i) 0:=by
 simp [List.getD,h]
theorem meas_short {b:List UInt8} (h:1<b.length) (hc:(b.getD 1 0).toNat<128):measM (b.drop 1)=⟨0,(b.getD 1 0).toNat,b.drop 2⟩:=by
 rw [measM_ne (c:=(b.getD 1 0).toNat) (r:=b.drop 2) (by simp;omega) (by simp [List.getD]) (by simp),if_pos (by omega)]
theorem meas_long {b:List UInt8} {k:Nat} (h:1<b.length) (hc:(b.getD 1 0).toNat=128+k):measM (b.drop 1)=if k=0∨4<k then ⟨4,0,[]⟩ else if b.length-2<k then ⟨2,0,[]⟩ else
  if lenL (beN ((b.drop 2).take k))=(b.take (2+k)).drop 1 then ⟨0,beN ((b.drop 2).take k),b.drop (2+k)⟩ else ⟨4,0,[]⟩:=by
 rw [measM_ne (c:=(b.getD 1 0).toNat) (r:=b.drop 2) (by simp;omega) (by simp [List.getD]) (by simp),if_neg (by omega)]
 by_cases h1:k=0∨4<k
 ·rw [if_pos h1,if_pos (by omega)]
 ·rw [if_neg h1,if_neg (by omega),List.length_drop,hc,show 128+k-128=k by omega]
  by_cases h2:b.length-2<k
  ·rw [if_pos h2,if_pos h2]
  ·rw [if_neg h2,if_neg h2,at_cons h,List.drop_drop]
   have hl:((b.drop 2).take k).length=k:=by simp;omega
   have hg:((b.drop 2).take k).getD 0 0=(b.drop 2).getD 0 0:=by simp [List.getD,show 0<k by omega]
   have:=lenL_iff (c:=b.getD 1 0) (l:=(b.drop 2).take k) (by omega) (by rw [hl];exact hc)
   rw [hg] at this
   by_cases h3:beN ((b.drop 2).take k)≤127∨((b.drop 2).getD 0 0).toNat=0
   ·rw [if_pos h3,if_neg (fun h=>this.1 h h3)]
   ·rw [if_neg h3,if_pos (this.2 h3)]
end
section
open Go.RowKit Cal
structure VV where
 kind:Int
 n:Int
 is:Bool
 b:List UInt8
 t:List UInt8
def VV.none:VV:=⟨0,0,false,[],[]⟩
structure W8 where
 fr:List (Int×List (List UInt8))
 d:List UInt8
 k:Nat
def failW (e:Nat) (s:W8):W8:=if s.k=0 then ⟨s.fr,s.d,e⟩ else s
def addW (b:List UInt8) (s:W8):W8:=match s.fr with
 | []=>⟨[],s.d++b,s.k⟩
 | x::r=>⟨(x.1,x.2++[b])::r,s.d,s.k⟩
def putW (tag:Int) (body:List UInt8) (e:Nat) (s:W8):W8 :=
 if (failW e s).k≠0 then failW e s else if putE tag body≠0 then ⟨s.fr,s.d,putE tag body⟩ else addW (putL tag body) s
def openW (tag:Int) (s:W8):W8:=if s.k≠0 then s else if madeM tag=false then ⟨s.fr,s.d,5⟩ else if s.fr.length=16 then ⟨s.fr,s.d,6⟩ else ⟨(tag,[])::s.fr,s.d,s.k⟩
def bodyF (x:Int×List (List UInt8)):List UInt8:=if x.1=49 then (sortL x.2).flatten else x.2.flatten
def closeV (s:W8):W8:=if s.k≠0 then s else match s.fr with
 | []=>⟨[],s.d,24⟩
 | x::r=>putW x.1 (bodyF x) 0 ⟨r,s.d,s.k⟩
def rawW (b:List UInt8) (s:W8):W8:=if (failW (depthM b).2 s).k=0 then addW b s else failW (depthM b).2 s
def doneK (s:W8):Nat:=if s.k≠0 then s.k else if s.fr≠[] then 24 else if 65536<s.d.length then 3 else 0
def doneB (s:W8):List UInt8:=if doneK s=0 then s.d else []
def bitsL (n:Int):List UInt8:=if n<0∨32767<n then [] else flagsL n.toNat
def bitsE (n:Int):Nat:=if n<0∨32767<n then 1 else 0
def bodyV (v:VV):Int×List UInt8×Nat :=
 if v.kind=3 then (2,putN v.n,0) else
 if v.kind=4 then (10,putN v.n,0) else
 if v.kind=5 then (1,[if v.is then 255 else 0],0) else
 if v.kind=6 then (4,v.b,0) else
 if v.kind=7 then (12,if askedM v.t v.n=0 then v.t else [],askedM v.t v.n) else
 if v.kind=8 then (6,putM v.t,(parseM v.t).2) else
 if v.kind=9 then (24,if inT v.n then bodyL (ofM v.n) else [],ofE v.n) else (3,bitsL v.n,bitsE v.n)
def doW (v:VV) (s:W8):W8 :=
 if v.kind=1 then openW v.n s else if v.kind=2 then closeV s else if v.kind=11 then rawW v.b s else putW (bodyV v).1 (bodyV v).2.1 (bodyV v).2.2 s
structure R8 where
 tags:List Int
 rows:List (List (List UInt8))
 e:Nat
def padR (m:Nat) (r:List (List (List UInt8))):List (List (List UInt8)):=r++List.replicate (m-r.length) []
def raddS (b:List UInt8) (s:R8):R8:=⟨s.tags,(padR (s.tags.length+1) s.rows).set s.tags.length ((padR (s.tags.length+1) s.rows).getD s.tags.length []++[b]),s.e⟩
def rputS (tag:Int) (b:List UInt8) (s:R8):R8:=if 65530<b.length then ⟨s.tags,s.rows,3⟩ else raddS (putL tag b) s
def ropenS (n:Int) (s:R8):R8:=if madeM n=false then ⟨s.tags,s.rows,5⟩ else if 16≤s.tags.length then ⟨s.tags,s.rows,6⟩ else ⟨s.tags++[n],(padR (s.tags.length+2) s.rows).set (s.tags.length+1) [],s.e⟩
def rcloseS (s:R8):R8:=if s.tags.length=0 then ⟨s.tags,s.rows,24⟩ else
 rputS (s.tags.getD (s.tags.length-1) 0) (bodyF (s.tags.getD (s.tags.length-1) 0,s.rows.getD s.tags.length [])) ⟨s.tags.take (s.tags.length-1),s.rows,s.e⟩
def rdoS (v:VV) (s:R8):R8 :=
 if s.e≠0 then s else if v.kind=1 then ropenS v.n s else if v.kind=2 then rcloseS s else
 if v.kind=11 then (if (depthM v.b).2≠0 then ⟨s.tags,s.rows,(depthM v.b).2⟩ else raddS v.b s) else
 if (bodyV v).2.2≠0 then ⟨s.tags,s.rows,(bodyV v).2.2⟩ else rputS (bodyV v).1 (bodyV v).2.1 s
def rdoneE (s:R8):Nat:=if s.e≠0 then s.e else if 0<s.tags.length then 24 else if 65536<(s.rows.getD 0 []).flatten.length then 3 else 0
def rdoneB (s:R8):List UInt8:=if rdoneE s=0 then (s.rows.getD 0 []).flatten else []
structure Same8 (r:R8) (s:W8):Prop where
 tags:r.tags=(s.fr.map Prod.fst).reverse
 e:r.e=s.k
 row0:(r.rows.getD 0 []).flatten=s.d
 row:∀ j,j<s.fr.length→r.rows.getD (j+1) []=((s.fr.map Prod.snd).reverse).getD j []
 len:r.tags.length≠0→r.tags.length<r.rows.length
 known:∀ x ∈ s.fr,madeM x.1=true
 lim:s.fr.length≤16
theorem same_zero:Same8 ⟨[],[],0⟩ ⟨[],[],0⟩:=⟨rfl,rfl,rfl,fun j h=>by simp at h,fun h=>by simp at h,fun _ h=>(by cases h),by decide⟩
theorem pad_len (m:Nat) (r:List (List (List UInt8))):(padR m r).length=max m r.length:=by simp [padR];omega
theorem pad_get (m:Nat) (r:List (List (List UInt8))) (j:Nat):(padR m r).getD j []=r.getD j []:=by
 simp only [padR,List.getD_eq_getElem?_getD,List.getElem?_append]
 split
 ·rfl
 ·rename_i h
  rw [List.getElem?_eq_none (l:=r) (by omega),List.getElem?_replicate]
  split <;> rfl
theorem set_get (l:List (List (List UInt8))) (i j:Nat) (x:List (List UInt8)) (hi:i<l.length):(l.set i x).getD j []=if j=i then x else l.getD j []:=by
 simp only [List.getD_eq_getElem?_getD,List.getElem?_set]
 by_cases h:i=j
 ·subst h;simp [hi]
 ·rw [if_neg h,if_neg (Ne.symm h)]
theorem same_add {r:R8} {s:W8} (h:Same8 r s) (b:List UInt8):Same8 (raddS b r) (addW b s):=by
 have hl:r.tags.length=s.fr.length:=by rw [h.tags];simp
 have hp:r.tags.length<(padR (r.tags.length+1) r.rows).length:=by rw [pad_len];omega
 obtain ⟨fr,d,k⟩:=s
 cases fr with
 | nil =>
  refine ⟨h.tags,h.e,?_,fun j hj=>by simp [addW] at hj,fun h0=>?_,h.known,h.lim⟩
  ·have h0:r.tags.length=0:=hl
   show List.flatten (List.getD (List.set _ _ _) _ _)=_
   rw [set_get _ _ _ _ hp,if_pos h0.symm,h0,pad_get,List.flatten_append,h.row0]
   simp [addW]
  ·exact absurd hl h0
 | cons x fr =>
  have hl':r.tags.length=fr.length+1:=hl
  refine ⟨?_,h.e,?_,fun j hj=>?_,fun _=>?_,fun y hy=>?_,h.lim⟩
  ·show r.tags=_
   rw [h.tags]
   simp [addW]
  ·show List.flatten (List.getD (List.set _ _ _) _ _)=_
   rw [set_get _ _ _ _ hp,if_neg (by omega),pad_get,h.row0]
   rfl
  ·have hj:j<fr.length+1:=hj
   show List.getD (List.set _ _ _) _ _=_
   rw [set_get _ _ _ _ hp]
   simp only [addW,List.map_cons,List.reverse_cons]
   have hr:=h.row j hj
   simp only [List.map_cons,List.reverse_cons] at hr
   by_cases e:j=fr.length
   ·rw [if_pos (by omega),pad_get,hl',← e,hr]
    simp [List.getD_eq_getElem?_getD,e]
   ·rw [if_neg (by omega),pad_get,hr]
    simp only [List.getD_eq_getElem?_getD]
    rw [List.getElem?_append_left (by simp;omega),List.getElem?_append_left (by simp;omega)]
  ·show r.tags.length<(List.set _ _ _).length
   rw [List.length_set]
   exact hp
  ·rcases List.mem_cons.1 hy with rfl|hy
   ·exact h.known x List.mem_cons_self
   ·exact h.known y (List.mem_cons_of_mem _ hy)
theorem made_known {t:Int} (h:madeM t=true):knownM t=true:=by unfold knownM;rw [h];rfl
theorem same_put {r:R8} {s:W8} (h:Same8 r s) (hk:s.k=0) {tag:Int} (ht:knownM tag=true) (b:List UInt8):Same8 (rputS tag b r) (putW tag b 0 s):=by
 have e0:failW 0 s=s:=by
  obtain ⟨fr,d,k⟩:=s
  obtain rfl:k=0:=hk
  rfl
 unfold putW
 rw [e0,if_neg (by omega)]
 unfold putE rputS
 rw [ht]
 simp only [Bool.true_eq_false,if_false]
 by_cases hb:65530<b.length
 ·rw [if_pos hb,if_pos hb,if_pos (by decide)]
  exact ⟨h.tags,rfl,h.row0,h.row,h.len,h.known,h.lim⟩
 ·rw [if_neg hb,if_neg hb,if_neg (by decide)]
  exact same_add h _
theorem same_open {r:R8} {s:W8} (h:Same8 r s) (hk:s.k=0) (n:Int):Same8 (ropenS n r) (openW n s):=by
 have hl:r.tags.length=s.fr.length:=by rw [h.tags];simp
 have hlim:=h.lim
 unfold ropenS openW
 rw [if_neg (show ¬ s.k≠0 by omega)]
 by_cases hm:madeM n=false
 ·rw [if_pos hm,if_pos hm]
  exact ⟨h.tags,rfl,h.row0,h.row,h.len,h.known,h.lim⟩
 ·rw [if_neg hm,if_neg hm]
  by_cases h16:s.fr.length=16
  ·rw [if_pos (by omega),if_pos h16]
   exact ⟨h.tags,rfl,h.row0,h.row,h.len,h.known,h.lim⟩
  ·rw [if_neg (by omega),if_neg h16]
   have hp:r.tags.length+1<(padR (r.tags.length+2) r.rows).length:=by rw [pad_len];omega
   refine ⟨?_,h.e,?_,fun j hj=>?_,fun _=>?_,fun y hy=>?_,?_⟩
   ·show r.tags++[n]=_
    rw [h.tags]
    simp
   ·show List.flatten (List.getD (List.set _ _ _) _ _)=_
    rw [set_get _ _ _ _ hp,if_neg (by omega),pad_get,h.row0]
   ·have hj:j<s.fr.length+1:=hj
    show List.getD (List.set _ _ _) _ _=_
    rw [set_get _ _ _ _ hp]
    simp only [List.map_cons,List.reverse_cons]
    by_cases e:j=s.fr.length
    ·rw [if_pos (by omega)]
     simp [List.getD_eq_getElem?_getD,e]
    ·rw [if_neg (by omega),pad_get,h.row j (by omega)]
     simp only [List.getD_eq_getElem?_getD]
     rw [List.getElem?_append_left (by simp;omega)]
   ·show (r.tags++[n]).length<(List.set _ _ _).length
    rw [List.length_set,List.length_append]
    exact hp
   ·rcases List.mem_cons.1 hy with rfl|hy
    ·simpa using hm
    ·exact h.known y hy
   ·show s.fr.length+1≤16
    omega
theorem same_close {r:R8} {s:W8} (h:Same8 r s) (hk:s.k=0):Same8 (rcloseS r) (closeV s):=by
 have hl:r.tags.length=s.fr.length:=by rw [h.tags];simp
 unfold rcloseS closeV
 rw [if_neg (show ¬ s.k≠0 by omega)]
 obtain ⟨fr,d,k⟩:=s
 cases fr with
 | nil =>
  rw [if_pos (show r.tags.length=0 from hl)]
  exact ⟨h.tags,rfl,h.row0,h.row,h.len,h.known,h.lim⟩
 | cons x fr =>
  have hl:r.tags.length=fr.length+1:=hl
  rw [if_neg (by omega)]
  have ht:r.tags=(fr.map Prod.fst).reverse++[x.1]:=by rw [h.tags];simp
  have e1:r.tags.getD (r.tags.length-1) 0=x.1:=by
   rw [hl,ht]
   simp [List.getD_eq_getElem?_getD]
  have e2:r.rows.getD r.tags.length []=x.2:=by
   rw [hl,h.row fr.length (by simp)]
   simp [List.getD_eq_getElem?_getD]
  rw [e1,e2]
  refine same_put (r:=⟨r.tags.take (r.tags.length-1),r.rows,r.e⟩) (s:=⟨fr,d,k⟩) ⟨?_,h.e,h.row0,fun j hj=>?_,fun h0=>?_,fun y hy=>h.known y (List.mem_cons_of_mem _ hy),?_⟩ hk (made_known (h.known x List.mem_cons_self)) _
  ·show r.tags.take _=_
   rw [hl,ht]
   simp
  ·have hj:j<fr.length:=hj
   show r.rows.getD (j+1) []=_
   rw [h.row j (by simp;omega)]
   simp only [List.map_cons,List.reverse_cons,List.getD_eq_getElem?_getD]
   rw [List.getElem?_append_left (by simp;omega)]
  ·show (r.tags.take _).length<r.rows.length
   have:=h.len (by omega)
   simp only [List.length_take]
   omega
  ·have:=h.lim
   simp at this ⊢
   omega
theorem same_do {r:R8} {s:W8} (h:Same8 r s) (v:VV):Same8 (rdoS v r) (doW v s):=by
 unfold rdoS doW
 have he:=h.e
 by_cases hk:s.k=0
 ·rw [if_neg (show ¬ r.e≠0 by omega)]
  split
  ·exact same_open h hk _
  ·split
   ·exact same_close h hk
   ·split
    ·unfold rawW
     have e:(failW (depthM v.b).2 s).k=(depthM v.b).2:=by unfold failW;rw [if_pos hk]
     rw [e]
     by_cases h0:(depthM v.b).2=0
     ·rw [if_neg (by omega),if_pos h0]
      exact same_add h _
     ·rw [if_pos h0,if_neg h0]
      unfold failW
      rw [if_pos hk]
      exact ⟨h.tags,rfl,h.row0,h.row,h.len,h.known,h.lim⟩
    ·by_cases h0:(bodyV v).2.2=0
     ·rw [if_neg (by omega),h0]
      refine same_put h hk ?_ _
      unfold bodyV
      repeat' split
      all_goals (first|rfl|decide)
     ·rw [if_pos h0]
      have e:failW (bodyV v).2.2 s=⟨s.fr,s.d,(bodyV v).2.2⟩:=by unfold failW;rw [if_pos hk]
      unfold putW
      rw [e,if_pos h0]
      exact ⟨h.tags,rfl,h.row0,h.row,h.len,h.known,h.lim⟩
 ·rw [if_pos (show r.e≠0 by omega)]
  have e1:∀ e,failW e s=s:=fun e=>by unfold failW;rw [if_neg hk]
  have e2:∀ t b e,putW t b e s=s:=fun t b e=>by unfold putW;rw [e1,if_pos hk]
  have e3:openW v.n s=s:=by unfold openW;rw [if_pos hk]
  have e4:closeV s=s:=by unfold closeV;rw [if_pos hk]
  have e5:rawW v.b s=s:=by unfold rawW;rw [e1,if_neg hk]
  rw [e2,e3,e4,e5,ite_self,ite_self,ite_self]
  exact h
theorem same_done {r:R8} {s:W8} (h:Same8 r s):rdoneE r=doneK s∧rdoneB r=doneB s:=by
 have hl:r.tags.length=s.fr.length:=by rw [h.tags];simp
 have e:rdoneE r=doneK s:=by
  unfold rdoneE doneK
  rw [h.e,h.row0,hl]
  cases s.fr <;> simp
 exact ⟨e,by unfold rdoneB doneB;rw [e,h.row0]⟩
end
section
open Go.RowKit
theorem nxE {b:List UInt8} {k:Nat} (h:nextM b=⟨k,0,[],[]⟩) (hk:k≠0):CEnt (.tup 4 (fl [.c (.int .i64 0),.c (.int .i64 0),.c (.int .i64 0),.c (.int .i64 (k:Nat))])) (.tup 4 (fl [.c (.int .i64 (nextM b).tag),.c (.int .i64 (fromM b)),.c (.int .i64 (toM b)),.c (.int .i64 (nextM b).e)])):=by
 unfold fromM toM
 rw [h,if_neg hk,if_neg hk]
 exact cZ
theorem nxO {b body rest:List UInt8} {t:Nat} {x y z:Int} (h:nextM b=⟨0,t,body,rest⟩) (hx:x=(t:Nat)) (hy:y=((b.length-rest.length-body.length:Nat):Int)) (hz:z=((b.length-rest.length:Nat):Int)):CEnt (.tup 4 (fl [.c (.int .i64 x),.c (.int .i64 y),.c (.int .i64 z),.c (.int .i64 0)])) (.tup 4 (fl [.c (.int .i64 (nextM b).tag),.c (.int .i64 (fromM b)),.c (.int .i64 (toM b)),.c (.int .i64 (nextM b).e)])):=by
 unfold fromM toM
 rw [h,if_pos rfl,if_pos rfl,hx,hy,hz]
 exact cZ
theorem rnext_ac {gs:List Nat} (b:List UInt8) (hb:b.length≤10000000):ACp gs Tryz.prog 87 [bsC b] (.tup 4 (fl [.c (.int .i64 (nextM b).tag),.c (.int .i64 (fromM b)),.c (.int .i64 (toM b)),.c (.int .i64 (nextM b).e)])):=by
 refine ac_of 81 Tryz.func87 rfl rfl rfl (fun al w0 F0 St0=>?_)
 refine jcr ?_;refine jq jrm ?_;refine jq jrm ?_;refine jq jrm ?_;refine jq jrm ?_;refine jN ?_;refine jcs ?_;refine jcr ?_;refine jq jrm ?_;refine jq jrl ?_;refine jq jrc ?_;refine jN ?_;refine jcc (fun h43=>?_) fun h43=>?_
 ·refine jcr ?_;refine jq jrm ?_;refine jq jrm ?_;refine jq jrm ?_;refine jq jrm ?_;refine jN ?_
  refine jR (jtr (jrt (hv:=nxE (k:=2) (by unfold nextM;rw [if_pos (by omega)]) (by decide))))
 refine jS (jtn ?_)
 refine jcs ?_;refine jcr ?_;refine jq jrm ?_;refine jq (jri (i:=0)) ?_;refine jq jrdr ?_;refine jq (jrv8 .i64) ?_
 refine jqe (jecP (rknown_ac _) ?_)
 refine jq jrn ?_;refine jN ?_;refine jcc (fun h46=>?_) fun h46=>?_
 ·refine jcr ?_;refine jq jrm ?_;refine jq jrm ?_;refine jq jrm ?_;refine jq jrm ?_;refine jN ?_
  refine jR (jtr (jrt (hv:=nxE (k:=5) (by unfold nextM;rw [if_neg (by omega),if_pos (by simpa using h46)]) (by decide))))
 refine jS (jtn ?_)
 refine jcs ?_
 obtain ⟨t,ht⟩:∃ t,t=(b.getD 0 0).toNat:=⟨_,rfl⟩
 have hk:knownM (t:Nat)=true:=by rw [ht];simpa using h46
 have hN:=nextM_ne (by omega) ht hk rfl
 refine jcr ?_;refine jq jrm ?_;refine jq jrl ?_;refine jq jrc ?_;refine jN ?_;refine jcc (fun h49=>?_) fun h49=>?_
 ·refine jcr ?_;refine jq jrm ?_;refine jq jrm ?_;refine jq jrm ?_;refine jq jrm ?_;refine jN ?_
  refine jR (jtr (jrt (hv:=?_)))
  have hm:measM (b.drop 1)=⟨2,0,[]⟩:=by unfold measM;rw [if_pos (by rw [List.length_drop];omega)]
  exact nxE (k:=2) (by rw [hN,hm];rfl) (by decide)
 refine jS (jtn ?_)
 refine jcr ?_;refine jq jrm ?_;refine jq (jri (i:=1)) ?_;refine jq jrdr ?_;refine jq (jrv8 .i64) ?_;refine jq jrm ?_;refine jq jrm ?_;refine jN ?_;refine jcs ?_
 obtain ⟨c,hc⟩:∃ c,c=(b.getD 1 0).toNat:=⟨_,rfl⟩
 have c8:c<256:=by rw [hc];exact (b.getD 1 0).toNat_lt
 refine jE (weaken 6 (.c (.int .i64 (c:Nat))) (CEnt.int (by rw [hc]))) ?_;refine jcr ?_;refine jq jrm ?_;refine jq jrc ?_;refine jN ?_;refine jcc (fun h53=>?_) fun h53=>?_
 rotate_left
 ·refine jS (jtn ?_)
  refine jcs ?_
  first
   | have hM2:=meas_short (b:=b) (by omega) (by omega)
   |(rw [if_neg (by omega),if_neg (by omega),if_pos (Classical.not_not.1 h66)] at hM;have hM2:=hM)
  rw [hM2] at hN
  dsimp only at hN
  rw [if_neg (by decide)] at hN
  refine jcr ?_;refine jq jrm ?_;refine jq jrc ?_;refine jN ?_;refine jcc (fun h70=>?_) fun h70=>?_
  ·refine jcr ?_;refine jq jrm ?_;refine jq jrm ?_;refine jq jrm ?_;refine jq jrm ?_;refine jN ?_
   refine jR (jtr (jrt (hv:=nxE (k:=3) (by rw [hN,if_pos (by omega)]) (by decide))))
  refine jS (jtn ?_)
  refine jcs ?_;refine jcr ?_;refine jq jrm ?_;refine jq jrm ?_;refine jq jrl ?_;refine jq jrm ?_;refine jq jra ?_;refine jq jrc ?_;refine jN ?_;refine jcc (fun h73=>?_) fun h73=>?_
  ·refine jcr ?_;refine jq jrm ?_;refine jq jrm ?_;refine jq jrm ?_;refine jq jrm ?_;refine jN ?_
   refine jR (jtr (jrt (hv:=nxE (k:=2) (by rw [hN,if_neg (by omega),if_pos (by rw [List.length_drop];omega)]) (by decide))))
  refine jS (jtn ?_)
  refine jcr ?_;refine jq jrm ?_;refine jq (jri (i:=0)) ?_;refine jq jrdr ?_;refine jq (jrv8 .i64) ?_;refine jq jrm ?_;refine jq jrm ?_;refine jq jrm ?_;refine jq jra ?_;refine jq jrm ?_;refine jq jrm ?_;refine jq jrm ?_;refine jq jrm ?_;refine jN ?_
  refine jR (jrt (hv:=nxO (by rw [hN,if_neg (by omega),if_neg (by rw [List.length_drop];omega)]) (by rw [ht]) (by simp only [List.length_drop,List.length_take];omega) (by simp only [List.length_drop];omega)))
 refine jcr ?_;refine jq jrm ?_;refine jq jra ?_;refine jq jrm ?_;refine jN ?_;refine jcs ?_
 obtain ⟨k,hk8⟩:∃ k,c=128+k:=⟨c-128,by omega⟩
 have hM:=meas_long (b:=b) (k:=k) (by omega) (by omega)
 refine jE (weaken 8 (.c (.int .i64 (k:Nat))) (CEnt.int (by omega))) ?_;refine jcr ?_;refine jq jrm ?_;refine jq jrc ?_;refine jq jrm ?_;refine jqsp 32 (fun g55=>?_) fun g55=>?_
 ·refine jqs ?_;refine jqs ?_;refine jq jrpT ?_;refine jN ?_;refine jcT ?_;refine jcr ?_;refine jq jrm ?_;refine jq jrm ?_;refine jq jrm ?_;refine jq jrm ?_;refine jN ?_
  refine jR (jtr (jtr (jrt (hv:=?_))))
  rw [if_pos (by omega)] at hM
  exact nxE (k:=4) (by rw [hN,hM];rfl) (by decide)
 refine jq jrm ?_;refine jq jrc ?_;refine jq jrpF ?_;refine jN ?_;refine jcc (fun h55=>?_) fun h55=>?_
 ·refine jcr ?_;refine jq jrm ?_;refine jq jrm ?_;refine jq jrm ?_;refine jq jrm ?_;refine jN ?_
  refine jR (jtr (jtr (jrt (hv:=?_))))
  rw [if_pos (by omega)] at hM
  exact nxE (k:=4) (by rw [hN,hM];rfl) (by decide)
 refine jS (jtn ?_)
 refine jcs ?_;refine jcr ?_;refine jq jrm ?_;refine jq jrl ?_;refine jq jra ?_;refine jq jrm ?_;refine jq jrc ?_;refine jN ?_;refine jcc (fun h58=>?_) fun h58=>?_
 ·refine jcr ?_;refine jq jrm ?_;refine jq jrm ?_;refine jq jrm ?_;refine jq jrm ?_;refine jN ?_
  refine jR (jtr (jtr (jrt (hv:=?_))))
  rw [if_neg (by omega),if_pos (by omega)] at hM
  exact nxE (k:=2) (by rw [hN,hM];rfl) (by decide)
 refine jS (jtn ?_)
 have hk4:1≤k∧k≤4:=by omega
 have htl:((b.drop 2).take k).length=k:=by simp;omega
 refine jcr ?_;refine jq jrm ?_;refine jN ?_;refine jcs ?_;refine jcr ?_;refine jq jrm ?_;refine jN ?_;refine jB ?_;refine l_loop (α:=Nat) [6,9,41,42,43,44,45,46,47,48,49,50,51,52,53,54] (fun i=>[(6,.c (.int .i64 (beN (((b.drop 2).take k).take i):Nat))),(9,.c (.int .i64 (i:Nat)))]) (fun _=>[]) (fun i=>i≤k) (fun i=>k-i) (0) ?_ (fun _=>rfl) ?_ ?_ ?_
 ·exact Nat.zero_le _
 ·(repeat (first|exact EntE.nil|refine EntE.cons cZ ?_|refine EntE.cons (CEnt.int (by omega)) ?_))
 ·(repeat (first|exact HEnt.nil|refine HEnt.same ?_|refine HEnt.blk rfl (fun j hj=>by rcases j with _|_|_|_|_|_|_|_|j <;> first|exact cZ|exact CEnt.int (by omega)|omega) ?_))
 ·rintro i (hi:i≤k)
  refine jcs ?_;refine jcr ?_;refine jq jrm ?_;refine jq jrm ?_;refine jq jrc ?_;refine jN ?_;refine jcc (fun h62=>?_) fun h62=>?_
  ·refine jS (jtn ?_)
   refine jcs ?_;refine jB ?_
   have hbn:=beN_lt (((b.drop 2).take k).take i)
   have hbl:(((b.drop 2).take k).take i).length=i:=by simp;omega
   have hb3:beN (((b.drop 2).take k).take i)<16777216:=by
    rw [hbl] at hbn
    have:i≤3:=by omega
    have:=Nat.pow_le_pow_right (n:=256) (by decide) this
    omega
   have hc8:=(b.getD (2+i) 0).toNat_lt
   refine jcg ?_;refine jq jrm ?_;refine jq jra ?_;refine jq jrm ?_;refine jq jrm ?_;refine jq jra ?_;refine jq (jri (i:=(2+i)) (hz:=by omega)) ?_;refine jq jrdr ?_;refine jq (jrv8 .i64) ?_;refine jq jra ?_;refine jq jrm ?_;refine jN ?_
   refine jbn (jtn ?_)
   refine jcg ?_;refine jq jrm ?_;refine jq jra ?_;refine jq jrm ?_;refine jN ?_;refine jtn ?_
   refine jlend (i+1) ?_ ?_ (h5:=?_)
   ·show i+1≤k;omega
   ·omega
   ·exact .cons (CEnt.int (by rw [beN_take (by omega),get_take (by omega)];omega)) (.cons cZ .nil)
  refine jX (jte (jte (jbx (jtn ?_))))
  obtain rfl:k=i:=by omega
  have hb4:beN ((b.drop 2).take k)<4294967296:=by
   have h:=beN_lt ((b.drop 2).take k)
   rw [htl] at h
   have:=Nat.pow_le_pow_right (n:=256) (by decide) hk4.2
   omega
  refine jE (weaken 6 (.c (.int .i64 (beN ((b.drop 2).take k):Nat))) (CEnt.int (by rw [List.take_take,Nat.min_self]))) ?_;refine jcr ?_;refine jq jrm ?_;refine jq jra ?_;refine jq jrm ?_;refine jN ?_;refine jcs ?_;refine jcd (.rd 0 (.rd 3 (.rd 4 (.rd 5 (.rd 6 (.one 1 (.rd 2 (.rd 7 .done)))))))) ?_;refine jyq jrm ?_;refine jyq jrm ?_;refine jyq jrm ?_;refine jyq (jrsb (hz1:=(show (1:Int)=((1:Nat):Int) from rfl))) ?_;refine jyq jrbs ?_
  refine jye (jecP (rlen_ac (beN ((b.drop 2).take k)) (by omega)) ?_ (ho:=rfl) (he:=(.cons (se rfl (CEnt.int (by omega))) .nil)))
  refine jyq jrbs ?_;refine jyq jrcs ?_;refine jyd ?_;refine jtn ?_;refine jcc (fun h66=>?_) fun h66=>?_
  ·refine jcr ?_;refine jq jrm ?_;refine jq jrm ?_;refine jq jrm ?_;refine jq jrm ?_;refine jN ?_
   refine jR (jtr (jrt (hv:=?_)))
   rw [if_neg (by omega),if_neg (by omega),if_neg h66] at hM
   exact nxE (k:=4) (by rw [hN,hM];rfl) (by decide)
  refine jS (jtn ?_)
  refine jcs ?_
  first
   | have hM2:=meas_short (b:=b) (by omega) (by omega)
   |(rw [if_neg (by omega),if_neg (by omega),if_pos (Classical.not_not.1 h66)] at hM;have hM2:=hM)
  rw [hM2] at hN
  dsimp only at hN
  rw [if_neg (by decide)] at hN
  refine jcr ?_;refine jq jrm ?_;refine jq jrc ?_;refine jN ?_;refine jcc (fun h70=>?_) fun h70=>?_
  ·refine jcr ?_;refine jq jrm ?_;refine jq jrm ?_;refine jq jrm ?_;refine jq jrm ?_;refine jN ?_
   refine jR (jtr (jrt (hv:=nxE (k:=3) (by rw [hN,if_pos (by omega)]) (by decide))))
  refine jS (jtn ?_)
  refine jcs ?_;refine jcr ?_;refine jq jrm ?_;refine jq jrm ?_;refine jq jrl ?_;refine jq jrm ?_;refine jq jra ?_;refine jq jrc ?_;refine jN ?_;refine jcc (fun h73=>?_) fun h73=>?_
  ·refine jcr ?_;refine jq jrm ?_;refine jq jrm ?_;refine jq jrm ?_;refine jq jrm ?_;refine jN ?_
   refine jR (jtr (jrt (hv:=nxE (k:=2) (by rw [hN,if_neg (by omega),if_pos (by rw [List.length_drop];omega)]) (by decide))))
  refine jS (jtn ?_)
  refine jcr ?_;refine jq jrm ?_;refine jq (jri (i:=0)) ?_;refine jq jrdr ?_;refine jq (jrv8 .i64) ?_;refine jq jrm ?_;refine jq jrm ?_;refine jq jrm ?_;refine jq jra ?_;refine jq jrm ?_;refine jq jrm ?_;refine jq jrm ?_;refine jq jrm ?_;refine jN ?_
  refine jR (jrt (hv:=nxO (by rw [hN,if_neg (by omega),if_neg (by rw [List.length_drop];omega)]) (by rw [ht]) (by simp only [List.length_drop,List.length_take];omega) (by simp only [List.length_drop];omega)))
end
section
open Go.RowKit
theorem loopW_err {rec:Nat→List UInt8→Nat×Nat} {set:Bool} {lv:Nat}:∀ {fuel:Nat} {b last:List UInt8} {dp:Nat},(loopW rec set lv fuel b last dp).2≠0→(loopW rec set lv fuel b last dp).1=0
 | 0,b,last,dp,h=>by simp [loopW] at h
 | fuel+1,b,last,dp,h=>by
  unfold loopW at h ⊢
  split
  ·rename_i h1;rw [if_pos h1] at h;exact absurd rfl h
  ·rename_i h1;rw [if_neg h1] at h
   split
   ·rfl
   ·rename_i h2;rw [if_neg h2] at h
    split
    ·rfl
    ·rename_i h3;rw [if_neg h3] at h
     split
     ·rfl
     ·rename_i h4;rw [if_neg h4] at h
      split
      ·rfl
      ·rename_i h5;rw [if_neg h5] at h
       exact loopW_err h
theorem loopW_pos {rec:Nat→List UInt8→Nat×Nat} {set:Bool} {lv:Nat}:∀ {fuel:Nat} {b last:List UInt8} {dp:Nat},1≤dp→(loopW rec set lv fuel b last dp).2=0→1≤(loopW rec set lv fuel b last dp).1
 | 0,b,last,dp,hd,h=>hd
 | fuel+1,b,last,dp,hd,h=>by
  have hn:=nextM_bd b
  unfold loopW at h ⊢
  split
  ·exact hd
  ·rename_i h1;rw [if_neg h1] at h
   split
   ·rename_i h2;rw [if_pos h2] at h;exact absurd h h2
   ·rename_i h2;rw [if_neg h2] at h
    split
    ·rename_i h3;rw [if_pos h3] at h;exact absurd h (by decide)
    ·rename_i h3;rw [if_neg h3] at h
     split
     ·rename_i h4;rw [if_pos h4] at h;exact absurd h h4
     ·rename_i h4;rw [if_neg h4] at h
      split
      ·rename_i h5;rw [if_pos h5] at h;exact absurd h (by decide)
      ·rename_i h5;rw [if_neg h5] at h
       exact loopW_pos (by omega) h
theorem wholeM_pos {lv tag:Nat} {body:List UInt8} (h:(wholeM lv tag body).2=0):1≤(wholeM lv tag body).1:=by
 match lv with
 | 0=>simp [wholeM]
 | lv+1 =>
  unfold wholeM at h ⊢
  split
  ·simp
  ·rename_i h1;rw [if_neg h1] at h
   exact loopW_pos (Nat.le_refl _) h
def allW (lv:Nat) (set:Bool) (body:List UInt8):Nat×Nat:=loopW (wholeM lv) set (lv+1) body.length body [] 1
theorem take_toM {b:List UInt8} (h:(nextM b).e=0):toM b=b.length-(nextM b).rest.length:=by unfold toM;rw [if_pos h]
theorem nextM_cut {b:List UInt8} (h:(nextM b).e=0):(nextM b).body=(b.take (toM b)).drop (fromM b)∧(nextM b).rest=b.drop (toM b)∧fromM b≤toM b∧toM b≤b.length:=by
 obtain ⟨n,k,hk,hr,hn,hkl,hb⟩:∃ n k,k≤b.length∧(nextM b).rest=(b.drop k).drop n∧n≤b.length-k∧k≤b.length∧(nextM b).body=(b.drop k).take n:=by
  have hm:∀ c:List UInt8,(measM c).e=0→∃ k,k≤c.length∧(measM c).rest=c.drop k:=by
   intro c
   unfold measM
   split
   ·intro h;exact absurd h (by decide)
   ·dsimp only
    split
    ·exact fun _=>⟨1,by omega,rfl⟩
    ·split
     ·intro h;exact absurd h (by decide)
     ·split
      ·intro h;exact absurd h (by decide)
      ·split
       ·intro h;exact absurd h (by decide)
       ·rename_i h1 h2 h3 h4 h5
        rw [List.length_drop] at h4
        exact fun _=>⟨1+((c.getD 0 0).toNat-128),by omega,by dsimp only;rw [List.drop_drop]⟩
  unfold nextM at h ⊢
  split
  ·rename_i h1;rw [if_pos h1] at h;exact absurd h (by decide)
  ·rename_i h1;rw [if_neg h1] at h
   split
   ·rename_i h2;rw [if_pos h2] at h;exact absurd h (by decide)
   ·rename_i h2;rw [if_neg h2] at h
    dsimp only at h ⊢
    split
    ·rename_i h3;rw [if_pos h3] at h;exact absurd h h3
    ·rename_i h3;rw [if_neg h3] at h
     split
     ·rename_i h4;rw [if_pos h4] at h;exact absurd h (by decide)
     ·rename_i h4;rw [if_neg h4] at h
      split
      ·rename_i h5;rw [if_pos h5] at h;exact absurd h (by decide)
      ·rename_i h5
       obtain ⟨k,hk,hr⟩:=hm (b.drop 1) (by omega)
       rw [List.length_drop] at hk
       rw [hr,List.length_drop,List.length_drop] at h5
       exact ⟨(measM (b.drop 1)).n,1+k,by omega,by rw [hr,List.drop_drop],by omega,by omega,by rw [hr,List.drop_drop]⟩
 have e1:toM b=k+n:=by
  rw [take_toM h,hr,List.length_drop,List.length_drop]
  omega
 have e2:fromM b=k:=by
  unfold fromM
  rw [if_pos h,hb,hr,List.length_take,List.length_drop,List.length_drop]
  omega
 rw [e1,e2,hb,hr]
 refine ⟨?_,by rw [List.drop_drop],by omega,by omega⟩
 rw [List.drop_take]
 congr 1
 omega

theorem wholeM_not {lv tag:Nat} {body:List UInt8} (h:madeM tag=false):wholeM lv tag body=(1,0):=by
 match lv with
 | 0=>rfl
 | lv+1=>unfold wholeM;rw [if_pos h]
theorem rwhole_ac {gs:List Nat}:∀ (lv:Nat) (set:Bool) (body:List UInt8),lv≤16→body.length≤1000000→ACp gs Tryz.prog 88 [bsC body,.c (.int .i64 (lv:Nat)),.c (.bool set)] (.tup 2 (fl [.c (.int .i64 ((allW lv set body).1-1:Nat)),.c (.int .i64 (allW lv set body).2)])):=by
 intro lv
 induction lv using Nat.strongRecOn with
 | _ lv ih =>
 intro set body hlv hbody
 have ih':1≤lv→∀ (tag:Nat) (body:List UInt8),madeM tag=true→body.length≤1000000→ACp gs Tryz.prog 88 [bsC body,.c (.int .i64 ((lv:Int)-1)),.c (.bool (decide (tag=49)))] (.tup 2 (fl [.c (.int .i64 ((wholeM lv tag body).1-1:Nat)),.c (.int .i64 (wholeM lv tag body).2)])):=fun h tag body hm hb=>by
  have:=ih (lv-1) (by omega) (decide (tag=49)) body (by omega) hb
  have e:wholeM lv tag body=allW (lv-1) (decide (tag=49)) body:=by
   obtain ⟨m,rfl⟩:∃ m,lv=m+1:=⟨lv-1,by omega⟩
   unfold wholeM allW
   rw [if_neg (by rw [hm];exact Bool.noConfusion)]
   rfl
  rw [e,show (lv:Int)-1=((lv-1:Nat):Int) by omega]
  exact this
 have hR:∀ t b,(wholeM lv t b).1≤lv+1∧(wholeM lv t b).2≤7:=fun t b=>wholeM_bd lv t b
 refine ac_of 73 Tryz.func88 rfl rfl rfl (fun al w0 F0 St0=>?_)
 refine jcr ?_;refine jq jrm ?_;refine jq jrm ?_;refine jN ?_;refine jcr ?_;refine jq jrm ?_;refine jN ?_;refine jcr ?_
 refine jqe (jebl 0 1 zr5 fun p1=>?_)
 refine jq jrm ?_;refine jN ?_;refine jcs ?_;refine jB ?_;refine jE (freeze 0 rfl) ?_;refine jE (thaw 9 (fun i _=>byF [] i) rfl rfl (by omega) (fun a b ha hb=>absurd ha (Nat.not_lt_zero a))) ?_;refine jE (pick_ent (H':=[]) [] (by decide) rfl) ?_;refine l_loop (α:=WS) [0,6,7,8,9,10,11,12,13,14,15,16,18,19,20,21,22,23,24,25,26,27,28,29,30,31,32,33,34,35,36,37,38,39,40,41,42,43,44,45,46,47,48,49,50,51,52,53,54,55,56,57,58,59,60,61,62,63,64,65,66,67,68,69,70,71] (fun x=>[(0,bsC x.b),(8,.c (.int .i64 ((x.dp-1:Nat):Int))),(9,bsC x.last)]) (fun _=>[]) (fun x=>1≤x.dp∧x.b.length≤x.f∧x.b.length≤1000000∧x.dp≤lv+2∧loopW (wholeM lv) set (lv+1) x.f x.b x.last x.dp=allW lv set body) (fun x=>x.f) (⟨body.length,body,[],1⟩) ?_ (fun _=>rfl) ?_ ?_ ?_
 ·exact ⟨Nat.le_refl _,Nat.le_refl _,hbody,by show 1≤lv+2;omega,rfl⟩
 ·(repeat (first|exact EntE.nil|refine EntE.cons cZ ?_|refine EntE.cons (CEnt.int (by omega)) ?_))
 ·(repeat (first|exact HEnt.nil|refine HEnt.same ?_|refine HEnt.blk rfl (fun j hj=>by rcases j with _|_|_|_|_|_|_|_|j <;> first|exact cZ|exact CEnt.int (by omega)|omega) ?_))
 ·rintro x ⟨hd1,hxf,hxb',hdp,hw⟩
  have hxb:x.b.length≤10000000:=by omega
  have hnb:=nextM_bd x.b
  refine jcs ?_;refine jcr ?_;refine jq jrm ?_;refine jq jrl ?_;refine jq jrc ?_;refine jN ?_;refine jcc (fun h97=>?_) fun h97=>?_
  rotate_left
  ·refine jX (jte (jte (jbx (jtn ?_))))
   refine jcr ?_;refine jq jrm ?_;refine jq jrm ?_;refine jq jrm ?_;refine jN ?_
   refine jR (jrt (hv:=?_))
   obtain hnil:x.b=[]:=List.eq_nil_of_length_eq_zero (by omega)
   rw [hnil,loopW_nil] at hw
   rw [← hw]
   exact cZ
  refine jS (jtn ?_)
  refine jB ?_;refine jcr ?_;refine jq jrm ?_
  refine jqe (jecP (rnext_ac x.b hxb) ?_)
  refine jq jrm ?_;refine jq jrx ?_;refine jq jrx ?_;refine jq jrx ?_;refine jq jrx ?_;refine jq jrm ?_;refine jq jrm ?_;refine jq jrm ?_;refine jq jrm ?_;refine jN ?_;refine jcs ?_;refine jcr ?_;refine jq jrm ?_;refine jq jrc ?_;refine jN ?_;refine jcc (fun h99=>?_) fun h99=>?_
  ·refine jcr ?_;refine jq jrm ?_;refine jq jrm ?_;refine jq jrm ?_;refine jN ?_
   refine jR (jtr (jbr (jtr (jbr (jtr (jrt (hv:=?_)))))))
   rw [← hw,loopW_step _ _ _ _ _ _ _ (by omega) hxf,if_pos (by omega)]
   exact cZ
  refine jS (jtn ?_)
  refine jcs ?_
  have he:¬(nextM x.b).e≠0:=by omega
  have hcut:=nextM_cut (b:=x.b) (by omega)
  have htm:=take_toM (b:=x.b) (by omega)
  refine jcr ?_;refine jq jrm ?_;refine jq jrc ?_;refine jN ?_;refine jcc (fun h102=>?_) fun h102=>?_
  ·refine jcr ?_;refine jq jrm ?_;refine jq jrm ?_;refine jN ?_
   refine jR (jtr (jbr (jtr (jbr (jtr (jrt (hv:=?_)))))))
   rw [← hw,loopW_step _ _ _ _ _ _ _ (by omega) hxf,if_neg he,if_pos (by omega)]
   exact cZ
  refine jS (jtn ?_)
  have hW:=hR (nextM x.b).tag (nextM x.b).body
  refine jcr ?_;refine jq jrm ?_;refine jN ?_;refine jcs ?_;refine jcr ?_;refine jq jrm ?_
  refine jqe (jecP (rmade_ac _) ?_)
  refine jN ?_;refine jcc (fun h106=>?_) fun h106=>?_
  rotate_left
  ·refine jS (jtn ?_)
   refine jcs ?_;refine jcs ?_
   have hw0:¬(wholeM lv (nextM x.b).tag (nextM x.b).body).2≠0:=by (rw [wholeM_not (decide_eq_false h106)];decide)
   have hw1:=wholeM_pos (Classical.not_not.1 hw0)
   refine jE (weaken 14 (.c (.int .i64 ((wholeM lv (nextM x.b).tag (nextM x.b).body).1:Nat))) (CEnt.int (by (rw [wholeM_not (decide_eq_false h106)];rfl)))) ?_;refine jcd (.rd 0 (.rd 1 (.rd 2 (.rd 3 (.rd 4 (.rd 5 (.rd 6 (.rd 7 (.rd 8 (.rd 9 .done)))))))))) ?_;refine jyq jrm ?_;refine jyq jrm ?_;refine jysp 53 (fun g113=>?_) fun g113=>?_
   rotate_left
   ·refine jys ?_;refine jys ?_;refine jys ?_;refine jys ?_;refine jys ?_;refine jys ?_;refine jys ?_;refine jyq jrpF ?_;refine jyd ?_;refine jtn ?_;refine jcF ?_
    refine jS (jtn ?_)
    refine jcs ?_
    have hset:¬(set=true∧Op.bytesLess (x.b.take (x.b.length-(nextM x.b).rest.length)) x.last=true):=by
     rintro ⟨h1,h2⟩
     rw [← htm] at h2
     (rw [h1] at g113;exact absurd g113 (by decide))
    refine jcr ?_;refine jq jrm ?_;refine jq jrm ?_;refine jq jrc ?_;refine jN ?_;refine jcc (fun h116=>?_) fun h116=>?_
    rotate_left
    ·refine jS (jtn ?_)
     refine jcr ?_;refine jq jrm ?_;refine jq jrm ?_;refine jq jrst ?_;refine jq jrm ?_;refine jN ?_;refine jcg ?_;refine jq jrm ?_;refine jq jrm ?_;refine jq jrsf ?_;refine jq jrm ?_;refine jN ?_
     refine jbn (jtn ?_)
     refine jlend (⟨x.f-1,(nextM x.b).rest,x.b.take (x.b.length-(nextM x.b).rest.length),max x.dp ((wholeM lv (nextM x.b).tag (nextM x.b).body).1+1)⟩) ?_ ?_ (h5:=?_)
     ·exact ⟨by dsimp only;omega,by dsimp only;omega,by dsimp only;omega,by dsimp only;omega,by
       dsimp only
       rw [← hw,loopW_step _ _ _ _ _ _ _ (by omega) hxf,if_neg he,if_neg (by omega),if_neg hw0,if_neg hset]⟩
     ·dsimp only
      omega
     ·exact .cons (CEnt.bs hcut.2.1.symm) (.cons (CEnt.int (by dsimp only;omega)) (.cons (CEnt.bs (by rw [htm])) .nil))
    refine jcg ?_;refine jq jrm ?_;refine jq jrm ?_;refine jN ?_;refine jtn ?_;refine jcr ?_;refine jq jrm ?_;refine jq jrm ?_;refine jq jrst ?_;refine jq jrm ?_;refine jN ?_;refine jcg ?_;refine jq jrm ?_;refine jq jrm ?_;refine jq jrsf ?_;refine jq jrm ?_;refine jN ?_
    refine jbn (jtn ?_)
    refine jlend (⟨x.f-1,(nextM x.b).rest,x.b.take (x.b.length-(nextM x.b).rest.length),max x.dp ((wholeM lv (nextM x.b).tag (nextM x.b).body).1+1)⟩) ?_ ?_ (h5:=?_)
    ·exact ⟨by dsimp only;omega,by dsimp only;omega,by dsimp only;omega,by dsimp only;omega,by
      dsimp only
      rw [← hw,loopW_step _ _ _ _ _ _ _ (by omega) hxf,if_neg he,if_neg (by omega),if_neg hw0,if_neg hset]⟩
    ·dsimp only
     omega
    ·exact .cons (CEnt.bs hcut.2.1.symm) (.cons (CEnt.int (by dsimp only;omega)) (.cons (CEnt.bs (by rw [htm])) .nil))
   refine jyq jrm ?_;refine jyq jrm ?_;refine jyq jrst ?_;refine jyq jrbs ?_;refine jyq jrm ?_;refine jyq jrbs ?_;refine jyq jrcs ?_;refine jyq jrpT ?_;refine jyd ?_;refine jtn ?_;refine jcc (fun h113=>?_) fun h113=>?_
   ·refine jcr ?_;refine jq jrm ?_;refine jq jrm ?_;refine jN ?_
    refine jR (jtr (jbr (jtr (jbr (jtr (jrt (hv:=?_)))))))
    rw [← hw,loopW_step _ _ _ _ _ _ _ (by omega) hxf,if_neg he,if_neg (by omega),if_neg hw0,if_pos ⟨by assumption,by rw [← htm];simpa using h113⟩]
    exact cZ
   refine jS (jtn ?_)
   refine jcs ?_
   have hset:¬(set=true∧Op.bytesLess (x.b.take (x.b.length-(nextM x.b).rest.length)) x.last=true):=by
    rintro ⟨h1,h2⟩
    rw [← htm] at h2
    (rw [h2] at h113;exact absurd h113 (by decide))
   refine jcr ?_;refine jq jrm ?_;refine jq jrm ?_;refine jq jrc ?_;refine jN ?_;refine jcc (fun h116=>?_) fun h116=>?_
   rotate_left
   ·refine jS (jtn ?_)
    refine jcr ?_;refine jq jrm ?_;refine jq jrm ?_;refine jq jrst ?_;refine jq jrm ?_;refine jN ?_;refine jcg ?_;refine jq jrm ?_;refine jq jrm ?_;refine jq jrsf ?_;refine jq jrm ?_;refine jN ?_
    refine jbn (jtn ?_)
    refine jlend (⟨x.f-1,(nextM x.b).rest,x.b.take (x.b.length-(nextM x.b).rest.length),max x.dp ((wholeM lv (nextM x.b).tag (nextM x.b).body).1+1)⟩) ?_ ?_ (h5:=?_)
    ·exact ⟨by dsimp only;omega,by dsimp only;omega,by dsimp only;omega,by dsimp only;omega,by
      dsimp only
      rw [← hw,loopW_step _ _ _ _ _ _ _ (by omega) hxf,if_neg he,if_neg (by omega),if_neg hw0,if_neg hset]⟩
    ·dsimp only
     omega
    ·exact .cons (CEnt.bs hcut.2.1.symm) (.cons (CEnt.int (by dsimp only;omega)) (.cons (CEnt.bs (by rw [htm])) .nil))
   refine jcg ?_;refine jq jrm ?_;refine jq jrm ?_;refine jN ?_;refine jtn ?_;refine jcr ?_;refine jq jrm ?_;refine jq jrm ?_;refine jq jrst ?_;refine jq jrm ?_;refine jN ?_;refine jcg ?_;refine jq jrm ?_;refine jq jrm ?_;refine jq jrsf ?_;refine jq jrm ?_;refine jN ?_
   refine jbn (jtn ?_)
   refine jlend (⟨x.f-1,(nextM x.b).rest,x.b.take (x.b.length-(nextM x.b).rest.length),max x.dp ((wholeM lv (nextM x.b).tag (nextM x.b).body).1+1)⟩) ?_ ?_ (h5:=?_)
   ·exact ⟨by dsimp only;omega,by dsimp only;omega,by dsimp only;omega,by dsimp only;omega,by
     dsimp only
     rw [← hw,loopW_step _ _ _ _ _ _ _ (by omega) hxf,if_neg he,if_neg (by omega),if_neg hw0,if_neg hset]⟩
   ·dsimp only
    omega
   ·exact .cons (CEnt.bs hcut.2.1.symm) (.cons (CEnt.int (by dsimp only;omega)) (.cons (CEnt.bs (by rw [htm])) .nil))
  refine jcr ?_;refine jq jrm ?_;refine jq jrm ?_;refine jq jrm ?_;refine jq jrsb ?_;refine jq jrm ?_;refine jq jra ?_;refine jq jrm ?_;refine jq jrc ?_
  refine jqe (jecP (ih' (by omega) (nextM x.b).tag (nextM x.b).body (decide_eq_true h106) (by omega)) ?_ (ho:=rfl) (he:=(.cons (se rfl (CEnt.bs hcut.1.symm)) (.cons (se rfl cZ) (.cons (se rfl (CEnt.bool (decide_eq_decide.2 (by omega)))) .nil)))))
  refine jq jrm ?_;refine jq jrx ?_;refine jq jrx ?_;refine jq jrm ?_;refine jq jrm ?_;refine jN ?_;refine jcs ?_;refine jcr ?_;refine jq jrm ?_;refine jq jrc ?_;refine jN ?_;refine jcc (fun h108=>?_) fun h108=>?_
  ·refine jcr ?_;refine jq jrm ?_;refine jq jrm ?_;refine jq jrm ?_;refine jN ?_
   refine jR (jtr (jtr (jbr (jtr (jbr (jtr (jrt (hv:=?_))))))))
   rw [← hw,loopW_step _ _ _ _ _ _ _ (by omega) hxf,if_neg he,if_neg (by omega),if_pos (by omega)]
   exact cZ
  refine jS (jtn ?_)
  refine jcg ?_;refine jq jrm ?_;refine jq jra ?_;refine jq jrm ?_;refine jN ?_;refine jtn ?_;refine jcs ?_;refine jcs ?_
  have hw0:¬(wholeM lv (nextM x.b).tag (nextM x.b).body).2≠0:=by omega
  have hw1:=wholeM_pos (Classical.not_not.1 hw0)
  refine jE (weaken 14 (.c (.int .i64 ((wholeM lv (nextM x.b).tag (nextM x.b).body).1:Nat))) (CEnt.int (by omega))) ?_;refine jcd (.rd 0 (.rd 1 (.rd 2 (.rd 3 (.rd 4 (.rd 5 (.rd 6 (.rd 7 (.rd 8 (.rd 9 .done)))))))))) ?_;refine jyq jrm ?_;refine jyq jrm ?_;refine jysp 53 (fun g113=>?_) fun g113=>?_
  rotate_left
  ·refine jys ?_;refine jys ?_;refine jys ?_;refine jys ?_;refine jys ?_;refine jys ?_;refine jys ?_;refine jyq jrpF ?_;refine jyd ?_;refine jtn ?_;refine jcF ?_
   refine jS (jtn ?_)
   refine jcs ?_
   have hset:¬(set=true∧Op.bytesLess (x.b.take (x.b.length-(nextM x.b).rest.length)) x.last=true):=by
    rintro ⟨h1,h2⟩
    rw [← htm] at h2
    (rw [h1] at g113;exact absurd g113 (by decide))
   refine jcr ?_;refine jq jrm ?_;refine jq jrm ?_;refine jq jrc ?_;refine jN ?_;refine jcc (fun h116=>?_) fun h116=>?_
   rotate_left
   ·refine jS (jtn ?_)
    refine jcr ?_;refine jq jrm ?_;refine jq jrm ?_;refine jq jrst ?_;refine jq jrm ?_;refine jN ?_;refine jcg ?_;refine jq jrm ?_;refine jq jrm ?_;refine jq jrsf ?_;refine jq jrm ?_;refine jN ?_
    refine jbn (jtn ?_)
    refine jlend (⟨x.f-1,(nextM x.b).rest,x.b.take (x.b.length-(nextM x.b).rest.length),max x.dp ((wholeM lv (nextM x.b).tag (nextM x.b).body).1+1)⟩) ?_ ?_ (h5:=?_)
    ·exact ⟨by dsimp only;omega,by dsimp only;omega,by dsimp only;omega,by dsimp only;omega,by
      dsimp only
      rw [← hw,loopW_step _ _ _ _ _ _ _ (by omega) hxf,if_neg he,if_neg (by omega),if_neg hw0,if_neg hset]⟩
    ·dsimp only
     omega
    ·exact .cons (CEnt.bs hcut.2.1.symm) (.cons (CEnt.int (by dsimp only;omega)) (.cons (CEnt.bs (by rw [htm])) .nil))
   refine jcg ?_;refine jq jrm ?_;refine jq jrm ?_;refine jN ?_;refine jtn ?_;refine jcr ?_;refine jq jrm ?_;refine jq jrm ?_;refine jq jrst ?_;refine jq jrm ?_;refine jN ?_;refine jcg ?_;refine jq jrm ?_;refine jq jrm ?_;refine jq jrsf ?_;refine jq jrm ?_;refine jN ?_
   refine jbn (jtn ?_)
   refine jlend (⟨x.f-1,(nextM x.b).rest,x.b.take (x.b.length-(nextM x.b).rest.length),max x.dp ((wholeM lv (nextM x.b).tag (nextM x.b).body).1+1)⟩) ?_ ?_ (h5:=?_)
   ·exact ⟨by dsimp only;omega,by dsimp only;omega,by dsimp only;omega,by dsimp only;omega,by
     dsimp only
     rw [← hw,loopW_step _ _ _ _ _ _ _ (by omega) hxf,if_neg he,if_neg (by omega),if_neg hw0,if_neg hset]⟩
   ·dsimp only
    omega
   ·exact .cons (CEnt.bs hcut.2.1.symm) (.cons (CEnt.int (by dsimp only;omega)) (.cons (CEnt.bs (by rw [htm])) .nil))
  refine jyq jrm ?_;refine jyq jrm ?_;refine jyq jrst ?_;refine jyq jrbs ?_;refine jyq jrm ?_;refine jyq jrbs ?_;refine jyq jrcs ?_;refine jyq jrpT ?_;refine jyd ?_;refine jtn ?_;refine jcc (fun h113=>?_) fun h113=>?_
  ·refine jcr ?_;refine jq jrm ?_;refine jq jrm ?_;refine jN ?_
   refine jR (jtr (jbr (jtr (jbr (jtr (jrt (hv:=?_)))))))
   rw [← hw,loopW_step _ _ _ _ _ _ _ (by omega) hxf,if_neg he,if_neg (by omega),if_neg hw0,if_pos ⟨by assumption,by rw [← htm];simpa using h113⟩]
   exact cZ
  refine jS (jtn ?_)
  refine jcs ?_
  have hset:¬(set=true∧Op.bytesLess (x.b.take (x.b.length-(nextM x.b).rest.length)) x.last=true):=by
   rintro ⟨h1,h2⟩
   rw [← htm] at h2
   (rw [h2] at h113;exact absurd h113 (by decide))
  refine jcr ?_;refine jq jrm ?_;refine jq jrm ?_;refine jq jrc ?_;refine jN ?_;refine jcc (fun h116=>?_) fun h116=>?_
  rotate_left
  ·refine jS (jtn ?_)
   refine jcr ?_;refine jq jrm ?_;refine jq jrm ?_;refine jq jrst ?_;refine jq jrm ?_;refine jN ?_;refine jcg ?_;refine jq jrm ?_;refine jq jrm ?_;refine jq jrsf ?_;refine jq jrm ?_;refine jN ?_
   refine jbn (jtn ?_)
   refine jlend (⟨x.f-1,(nextM x.b).rest,x.b.take (x.b.length-(nextM x.b).rest.length),max x.dp ((wholeM lv (nextM x.b).tag (nextM x.b).body).1+1)⟩) ?_ ?_ (h5:=?_)
   ·exact ⟨by dsimp only;omega,by dsimp only;omega,by dsimp only;omega,by dsimp only;omega,by
     dsimp only
     rw [← hw,loopW_step _ _ _ _ _ _ _ (by omega) hxf,if_neg he,if_neg (by omega),if_neg hw0,if_neg hset]⟩
   ·dsimp only
    omega
   ·exact .cons (CEnt.bs hcut.2.1.symm) (.cons (CEnt.int (by dsimp only;omega)) (.cons (CEnt.bs (by rw [htm])) .nil))
  refine jcg ?_;refine jq jrm ?_;refine jq jrm ?_;refine jN ?_;refine jtn ?_;refine jcr ?_;refine jq jrm ?_;refine jq jrm ?_;refine jq jrst ?_;refine jq jrm ?_;refine jN ?_;refine jcg ?_;refine jq jrm ?_;refine jq jrm ?_;refine jq jrsf ?_;refine jq jrm ?_;refine jN ?_
  refine jbn (jtn ?_)
  refine jlend (⟨x.f-1,(nextM x.b).rest,x.b.take (x.b.length-(nextM x.b).rest.length),max x.dp ((wholeM lv (nextM x.b).tag (nextM x.b).body).1+1)⟩) ?_ ?_ (h5:=?_)
  ·exact ⟨by dsimp only;omega,by dsimp only;omega,by dsimp only;omega,by dsimp only;omega,by
    dsimp only
    rw [← hw,loopW_step _ _ _ _ _ _ _ (by omega) hxf,if_neg he,if_neg (by omega),if_neg hw0,if_neg hset]⟩
  ·dsimp only
   omega
  ·exact .cons (CEnt.bs hcut.2.1.symm) (.cons (CEnt.int (by dsimp only;omega)) (.cons (CEnt.bs (by rw [htm])) .nil))
theorem allW_one {b:List UInt8} (h:(nextM b).e=0) (hr:(nextM b).rest=[]):((allW 16 false b).1-1,(allW 16 false b).2)=wholeM 16 (nextM b).tag (nextM b).body:=by
 have hb:b≠[]:=by rintro rfl;exact absurd h (by decide)
 have hl:0<b.length:=List.length_pos_iff.2 hb
 unfold allW
 rw [loopW_step _ _ _ _ _ _ _ hl (Nat.le_refl _),if_neg (by omega),if_neg (by decide)]
 by_cases hw:(wholeM 16 (nextM b).tag (nextM b).body).2=0
 ·have:=wholeM_pos hw
  rw [if_neg (by omega),if_neg (by simp),hr,loopW_nil]
  refine Prod.ext ?_ hw.symm
  show max 1 _-1=_
  omega
 ·rw [if_pos hw]
  refine Prod.ext ?_ rfl
  show 0-1=_
  have:(wholeM 16 (nextM b).tag (nextM b).body).1=0:=by
   unfold wholeM at hw ⊢
   split
   ·rename_i h1;rw [if_pos h1] at hw;exact absurd rfl hw
   ·rename_i h1;rw [if_neg h1] at hw;exact loopW_err hw
  omega
theorem rcheck_ac {gs:List Nat} (b:List UInt8) (hb:b.length≤1000000):ACp gs Tryz.prog 55 [bsC b] (.tup 2 (fl [.c (.int .i64 (depthM b).1),.c (.int .i64 (depthM b).2)])):=by
 have hnb:=nextM_bd b
 refine ac_of 29 Tryz.func55 rfl rfl rfl (fun al w0 F0 St0=>?_)
 refine jcr ?_;refine jq jrm ?_;refine jq jrm ?_;refine jN ?_;refine jcs ?_;refine jcr ?_;refine jq jrm ?_;refine jq jrl ?_;refine jq jrc ?_;refine jN ?_;refine jcc (fun h127=>?_) fun h127=>?_
 ·refine jcr ?_;refine jq jrm ?_;refine jq jrm ?_;refine jN ?_
  refine jR (jtr (jrt (hv:=?_)))
  unfold depthM
  rw [if_pos (by omega)]
  exact cZ
 refine jS (jtn ?_)
 refine jcr ?_;refine jq jrm ?_
 refine jqe (jecP (rnext_ac b (by omega)) ?_)
 refine jq jrm ?_;refine jq jrx ?_;refine jq jrx ?_;refine jq jrx ?_;refine jq jrx ?_;refine jq jrm ?_;refine jq jrm ?_;refine jq jrm ?_;refine jq jrm ?_;refine jN ?_;refine jcs ?_;refine jcr ?_;refine jq jrm ?_;refine jq jrc ?_;refine jN ?_;refine jcc (fun h131=>?_) fun h131=>?_
 ·refine jcr ?_;refine jq jrm ?_;refine jq jrm ?_;refine jq jrm ?_;refine jN ?_
  refine jR (jtr (jrt (hv:=?_)))
  unfold depthM
  rw [if_neg (by omega),if_pos (by omega)]
  exact cZ
 refine jS (jtn ?_)
 refine jcs ?_;refine jcr ?_;refine jq jrm ?_;refine jq jrm ?_;refine jq jrl ?_;refine jq jrc ?_;refine jN ?_;refine jcc (fun h134=>?_) fun h134=>?_
 ·refine jcr ?_;refine jq jrm ?_;refine jq jrm ?_;refine jN ?_
  refine jR (jtr (jrt (hv:=?_)))
  have htm:=take_toM (b:=b) (by omega)
  unfold depthM
  rw [if_neg (by omega),if_neg (by omega),if_pos (by omega)]
  exact cZ
 refine jS (jtn ?_)
 refine jcr ?_;refine jq jrm ?_
 refine jqe (jecP (rwhole_ac 16 false b (by omega) hb) ?_)
 refine jq jrx ?_;refine jq jrx ?_;refine jq jrm ?_;refine jq jrm ?_;refine jN ?_
 refine jR (jrt (hv:=?_))
 have htm:=take_toM (b:=b) (by omega)
 have hr:(nextM b).rest=[]:=List.eq_nil_of_length_eq_zero (by omega)
 have:=allW_one (b:=b) (by omega) hr
 have hd:depthM b=((allW 16 false b).1-1,(allW 16 false b).2):=by
  unfold depthM
  rw [if_neg (by omega),if_neg (by omega),if_neg (by omega),this]
 rw [hd]
 exact cZ
end
section
open Go.RowKit
theorem isNaN8_run (x:Int) (w:World):Calls Tryz.prog 179 #[.int .u8 x] w fun e w'=>e=.returned (.bool false)∧w'=w:=by
 go_enter Tryz.func179,Tryz.ntmps179
 go_wp2
 go_ret
 exact ⟨rfl,rfl⟩
set_option maxHeartbeats 1000000 in
theorem cmp8_run (a b:UInt8) (w:World):Calls Tryz.prog 158 #[.int .u8 (a.toNat:Nat),.int .u8 (b.toNat:Nat)] w fun e w'=>e=.returned (.int .i64 (cmp8 a b))∧w'=w:=by
 rcases Nat.lt_trichotomy a.toNat b.toNat with h|h|h
 ·have HF:Hid (cmp8 a b=-1):=by unfold cmp8;rw [if_pos h];rfl
  have h1:decide (((a.toNat:Nat):Int)<(b.toNat:Nat))=true:=by simp;omega
  go_enter Tryz.func158,Tryz.ntmps158
  go_wp2_with (go_at_call 179;refine (isNaN8_run _ _).mono ?_;rintro e w' ⟨rfl,rfl⟩)
  go_ret
  exact ⟨by rw [HF.out];rfl,rfl⟩
 ·have HF:Hid (cmp8 a b=0):=by unfold cmp8;rw [if_neg (by omega),if_neg (by omega)];rfl
  have h1:decide (((a.toNat:Nat):Int)<(b.toNat:Nat))=false:=by simp;omega
  have h2:decide (((b.toNat:Nat):Int)<(a.toNat:Nat))=false:=by simp;omega
  go_enter Tryz.func158,Tryz.ntmps158
  go_wp2_with (go_at_call 179;refine (isNaN8_run _ _).mono ?_;rintro e w' ⟨rfl,rfl⟩)
  go_ret
  exact ⟨by rw [HF.out];rfl,rfl⟩
 ·have HF:Hid (cmp8 a b=1):=by unfold cmp8;rw [if_neg (by omega),if_pos h];rfl
  have h1:decide (((a.toNat:Nat):Int)<(b.toNat:Nat))=false:=by simp;omega
  have h2:decide (((b.toNat:Nat):Int)<(a.toNat:Nat))=true:=by simp;omega
  go_enter Tryz.func158,Tryz.ntmps158
  go_wp2_with (go_at_call 179;refine (isNaN8_run _ _).mono ?_;rintro e w' ⟨rfl,rfl⟩)
  go_ret
  exact ⟨by rw [HF.out];rfl,rfl⟩
theorem bs_cell {w:World} {ao:Option Addr} {n cap:Nat} {l:List UInt8} (h:Bs w (.slice ao n cap) l) {k:Nat} (hk:k<l.length):∃ b o,ao=some ⟨b,o,none⟩∧w.cell? ⟨b,o+k,none⟩=some (.int .u8 (l.getD k 0).toNat):=by
 obtain ⟨b,o,cap',e,h1,h2,h3⟩:=h.cons (by omega)
 injection e with e1 e2 e3
 exact ⟨b,o,e1,h3 k hk⟩
set_option maxHeartbeats 2000000 in
theorem compare8_run {w:World} {v1 v2:Value} {l r:List UInt8} (h1:Bs w v1 l) (h2:Bs w v2 r):Calls Tryz.prog 135 #[v1,v2] w fun e w'=>e=.returned (.int .i64 (cmpL l r))∧w'=w:=by
 obtain ⟨ao1,cap1,rfl,a1,a2,-,-⟩:=id h1
 obtain ⟨ao2,cap2,rfl,b1,b2,-,-⟩:=id h2
 have H1:=Lib.hid h1
 have H2:=Lib.hid h2
 clear h1 h2
 have L1:(l.length:Int)≤9223372036854775807:=by omega
 have A1:=Lib.hid a1;have A2:=Lib.hid a2;have B1:=Lib.hid b1;have B2:=Lib.hid b2
 clear a1 a2 b1 b2
 go_enter Tryz.func135,Tryz.ntmps135
 go_wp2
 go_loopw [11] (fun i wr=>∃ k:Nat,Hid (k≤l.length∧k≤r.length∧cmpL (l.drop k) (r.drop k)=cmpL l r)∧i=.int .i64 k∧wr=w) (fun i _=>l.length-(intOf i).toNat)
 case atStart=>exact ⟨0,⟨Nat.zero_le _,Nat.zero_le _,rfl⟩,rfl,rfl⟩
 case round =>
  obtain ⟨k,HK,rfl,rfl⟩:=hrel
  by_cases hk:k<l.length
  ·have q1:decide ((k:Int)<(l.length:Int))=true:=by simp;omega
   obtain ⟨p1,o1,rfl,c1⟩:=bs_cell H1.out hk
   by_cases hr:k<r.length
   ·have q2:decide ((r.length:Int)≤(k:Int))=false:=by simp;omega
    obtain ⟨p2,o2,rfl,c2⟩:=bs_cell H2.out hr
    have HS:=Lib.hid (cmpL_drop (l:=l) (r:=r) (i:=k) hk hr)
    have i1:(0:Int)≤(k:Int):=by omega
    have i2:(k:Int)<(l.length:Int):=by omega
    have i3:(k:Int)<(r.length:Int):=by omega
    generalize l.getD k 0=x at c1 HS
    generalize r.getD k 0=y at c2 HS
    by_cases hz:cmp8 x y=0
    ·have HZ:=Lib.hid hz
     have q3:(cmp8 x y != 0)=false:=by rw [hz];rfl
     clear hz
     go_wp2_with (go_at_call 158;refine (cmp8_run _ _ _).mono ?_;rintro e w' ⟨rfl,rfl⟩)
     case roundEnd=>exact ⟨⟨k+1,⟨by omega,by omega,by rw [← HK.out.2.2,HS.out,if_neg (fun e=>e HZ.out)]⟩,by simp,trivial⟩,by simp [intOf];omega⟩
    ·have HF:Hid (cmpL l r=cmp8 x y):=by show _=_;rw [← HK.out.2.2,HS.out,if_pos hz]
     have q3:(cmp8 x y != 0)=true:=by simp [hz]
     clear hz
     go_wp2_with (go_at_call 158;refine (cmp8_run _ _ _).mono ?_;rintro e w' ⟨rfl,rfl⟩)
     all_goals (go_ret;exact ⟨by rw [HF.out];rfl,rfl⟩)
   ·have HF:Hid (cmpL l r=1):=by
     show _=_
     rw [← HK.out.2.2,List.drop_eq_nil_of_le (by omega:r.length≤k),List.drop_eq_getElem_cons hk];rfl
    have q2:decide ((r.length:Int)≤(k:Int))=true:=by simp;omega
    have i1:(0:Int)≤(k:Int):=by omega
    have i2:(k:Int)<(l.length:Int):=by omega
    go_wp2
    all_goals (go_ret;exact ⟨by rw [HF.out];rfl,rfl⟩)
  ·have q1:decide ((k:Int)<(l.length:Int))=false:=by simp;omega
   have hkl:k=l.length:=by have:=HK.out.1;omega
   by_cases hr:l.length<r.length
   ·have HF:Hid (cmpL l r=-1):=by
     show _=_
     rw [← HK.out.2.2,hkl,List.drop_length,List.drop_eq_getElem_cons hr];rfl
    have q2:decide ((l.length:Int)<(r.length:Int))=true:=by simp;omega
    go_wp2
    all_goals (go_ret;exact ⟨by rw [HF.out];rfl,rfl⟩)
   ·have HF:Hid (cmpL l r=0):=by
     show _=_
     have e:r.length=l.length:=by have:=HK.out.2.1;omega
     rw [← HK.out.2.2,hkl,List.drop_length,← e,List.drop_length];rfl
    have q2:decide ((l.length:Int)<(r.length:Int))=false:=by simp;omega
    go_wp2
    all_goals (go_ret;exact ⟨by rw [HF.out];rfl,rfl⟩)
end
section
open Go.RowKit
open Go.Sort (SWO PermIn SortedIn putCells putRow mapBlock ahead grow onCells)
def lbF (ls:List (List UInt8)) (j:Nat):CV:=bsC (ls.getD j [])
section
variable {α:Type} [Inhabited α] {enc:α→Value} {w:World} {g n:Nat} {d:Array α} {os:Array Obj}
theorem sortW_other {b:Nat} (hb:b<w.heap.size) (hn:b≠g):(sortWorld enc w g 0 n d os).heap[b]?=w.heap[b]?:=by
 show ((w.heap.modify g (onCells (putCells enc 0 d)))++os)[b]?=_
 rw [Array.getElem?_append_left (by simpa using hb),Array.getElem?_modify,if_neg (fun e=>hn e.symm)]
theorem sortW_at {cur:Array Value} {t:TypeId} {z:Nat×Nat} (h:w.heap[g]?=some (.cells cur t z)):(sortWorld enc w g 0 n d os).heap[g]?=some (.cells (putCells enc 0 d cur) t z):=by
 have hb:g<w.heap.size:=(Array.getElem?_eq_some_iff.1 h).1
 show ((w.heap.modify g (onCells (putCells enc 0 d)))++os)[g]?=_
 rw [Array.getElem?_append_left (by simpa using hb),Array.getElem?_modify,if_pos rfl,h]
 rfl
theorem sortW_size:w.heap.size≤(sortWorld enc w g 0 n d os).heap.size:=by
 show _≤((w.heap.modify g (onCells (putCells enc 0 d)))++os).size
 rw [Array.size_append,Array.size_modify]
 omega
end
theorem row_get {cs:Array Value} {m:Nat} {enc:Fin (m+1)→Value} {d:Array (Fin (m+1))} {i:Nat} (hi:i<d.size) (hc:d.size≤cs.size):(putCells enc 0 d cs).getD i undef=enc d[i]! := by
 have h2:i<(putCells enc 0 d cs).size:=by simp [putCells];omega
 rw [Array.getD_eq_getD_getElem?,Array.getElem?_eq_getElem h2]
 simp [putCells,hi]
theorem sort8_of {gs:List Nat} {P:Program} {fs fc:FuncId}
  (hnone:∀ (p:Option Addr) (cap:Nat) (fv:Value) (w:World),Calls P fs #[.slice p 0 cap,fv] w fun e w'=>e=.returned (.tuple #[])∧w'=w)
  (hsort:∀ (m:Nat) (enc:Fin (m+1)→Value) (h1:OneCell enc) (cf:Fin (m+1)→Fin (m+1)→Int) (hO:SWO (ltOf cf)) (blk cap:Nat) (d:Array (Fin (m+1))) (w:World),CmpLays1 P fc #[] enc cf blk 0 d.size w→Go.Sort.Holds enc w blk 0 d→blk<w.heap.size→d.size<4611686018427387904 →
   Calls P fs #[.slice (some ⟨blk,0,none⟩) d.size cap,.func (.func fc) #[] #[]] w fun e w'=>e=.returned (.tuple #[])∧∃ d' n os,PermIn 0 d.size d d'∧SortedIn (ltOf cf) 0 d.size d'∧w'=sortWorld enc w blk 0 n d' os)
  (hcmp:∀ (w:World) (v1 v2:Value) (l r:List UInt8),Bs w v1 l→Bs w v2 r→Calls P fc #[v1,v2] w fun e w'=>e=.returned (.int .i64 (cmpL l r))∧w'=w)
  (g:Option Nat) (ls:List (List UInt8)) (hl:ls.length≤1000000000):AC gs P fs [(g,.blk ls.length (lbF ls))] [.os 0 g 0 ls.length 1,.c (.func (.func fc) #[] #[])] (fun r H'=>r=.c (.tuple #[])∧H'=[(g,.blk ls.length (lbF (sortL ls)))]):=by
 intro al w St F0 vals he hs hv
 obtain ⟨fp,hp⟩:=he.hp
 have v0:=hv 0
 have v1:vals.getD 1 undef=.func (.func fc) #[] #[]:=hv 1
 have hnil:ls.length=0→sortL ls=ls:=fun h=>by
  have:ls=[]:=List.eq_nil_of_length_eq_zero h
  subst this;simp [sortL]
 have same:ls.length=0→HRel al St w w.heap.size F0 [(g,.blk ls.length (lbF (sortL ls)))]:=fun h=>⟨fp,by rw [hnil h];exact hp⟩
 rw [vals2 hs,v1]
 by_cases hz:ls.length=0
 ·have hx:∃ p cap,vals.getD 0 undef=.slice p 0 cap:=by
   cases g with
   | none=>exact ⟨none,0,v0.2⟩
   | some b=>obtain ⟨cap,h1,_⟩:=v0;exact ⟨_,cap,by rw [h1,hz]⟩
  obtain ⟨p,cap,hx⟩:=hx
  rw [hx]
  refine (hnone p cap _ w).mono ?_
  rintro e w' ⟨rfl,rfl⟩
  exact ⟨_,_,_,St,rfl,⟨rfl,rfl⟩,rfl,Under.refl _ _,fun _ h=>h,fun _ h=>.inl h,he.s3,same hz⟩
 ·cases g with
  | none=>exact absurd v0.1 hz
  | some b =>
   obtain ⟨cap,h1,h2,h3,cur0,t0,z0,h4,h5⟩:=v0
   obtain ⟨hF,cur,t,k1,k2,k3⟩:=hp.rep 0 (some b) _ rfl
   have hF0:F0 b:=by
    rcases (hp.own 0 b ((hF b).2 rfl)).2.2 with h|h
    ·have:=(hp.own 0 b ((hF b).2 rfl)).1;omega
    ·exact h
   have hSt:∀ x,St x→x≠b:=fun x hx e=>(hp.own 0 b ((hF b).2 rfl)).2.1 (e ▸ hx)
   have hb:b<w.heap.size:=(Array.getElem?_eq_some_iff.1 k1).1
   obtain ⟨m,hm⟩:∃ m,ls.length=m+1:=⟨ls.length-1,by omega⟩
   let enc:Fin (m+1)→Value:=fun i=>cur.getD i.val undef
   let d:Array (Fin (m+1)):=Array.ofFn id
   have hd:d.size=ls.length:=by simp [d,hm]
   have hrep:∀ i:Fin (m+1),RepC al St w (bsC (ls.getD i.val [])) (enc i):=fun i=>k3 i.val (by omega)
   have hbs:∀ (w':World),KeepS St w w'→∀ i:Fin (m+1),Bs w' (enc i) (ls.getD i.val []):=fun w' hk i=>bs_of_rep (rep_bs_keep (hrep i) hk)
   have hone:OneCell enc:=fun i=>by
    obtain ⟨ao,cap,e,_⟩:=hbs w (KeepS.refl _ _) i
    rw [e];rfl
   have hkeep:∀ (n:Nat) (d':Array (Fin (m+1))) (os:Array Obj),KeepS St w (sortWorld enc w b 0 n d' os):=fun n d' os x hx=>sortW_other (he.s3 x hx) (hSt x hx)
   have hO:=cmpL_swo (fun i:Fin (m+1)=>ls.getD i.val [])
   have hH:Go.Sort.Holds enc w b 0 d:=fun j hj=>by
    have hj2:j<cur.size:=by omega
    have e1:d[j]! = ⟨j,by omega⟩:=by simp [d,show j<m+1 by omega]
    refine ⟨?_,?_⟩
    ·simp only [World.cell?,k1,Nat.zero_add]
     rw [if_neg (by simp),e1]
     simp [enc,hj2]
    ·simp [World.frozen?,k1]
   have key:=hsort m enc hone (fun x y=>cmpL (ls.getD x.val []) (ls.getD y.val [])) hO b cap d w (fun n os dk hdk x y=>(hcmp _ _ _ _ _ (hbs _ (hkeep n dk os) x) (hbs _ (hkeep n dk os) y)).mono (by rintro e w' ⟨rfl,rfl⟩;exact ⟨rfl,0,#[],by simp [World.drewN]⟩)) hH hb (by omega)
   rw [h1,← hd]
   refine key.mono ?_
   rintro e w' ⟨rfl,d',n,os,hP,hS,rfl⟩
   have hd':d'.size=ls.length:=hP.1.trans hd
   have hms:(d'.toList.map fun i=>ls.getD i.val [])=sortL ls:=by
    refine sortL_of ?_ ?_
    ·have h6:=hP.2.2
     have e1:(d'.extract 0 d.size).toList=d'.toList:=by rw [← hP.1];simp
     have e2:(d.extract 0 d.size).toList=d.toList:=by simp
     rw [e1,e2] at h6
     refine (h6.map _).trans ?_
     have e3:d.toList.map (fun i:Fin (m+1)=>ls.getD i.val [])=ls:=by
      apply List.ext_getElem
      ·simp [d,hm]
      ·intro i h7 h8
       rw [List.getElem_map,Array.getElem_toList]
       have e4:d[i]'(by rw [hd];exact h8)=⟨i,by omega⟩:=by simp only [d,Array.getElem_ofFn];rfl
       rw [e4];simp only [List.getD,List.getElem?_eq_getElem h8,Option.getD_some]
     rw [e3]
    ·rw [List.pairwise_map,List.pairwise_iff_getElem]
     intro i j hi hj hij
     have h7:=hS i j (Nat.zero_le _) hij (by rw [← hP.1];simpa using hj)
     have hi2:i<d'.size:=by simpa using hi
     have hj2:j<d'.size:=by simpa using hj
     rw [getElem!_pos d' i hi2,getElem!_pos d' j hj2] at h7
     unfold ltOf at h7
     simp only [decide_eq_false_iff_not,Int.not_lt] at h7
     have h8:=cmpL_swap (ls.getD (d'[j]).val []) (ls.getD (d'[i]).val [])
     unfold leL
     rw [decide_eq_true_eq]
     simp only [Array.getElem_toList]
     omega
   have hw:=sortW_at (enc:=enc) (n:=n) (d:=d') (os:=os) k1
   have hsz:=sortW_size (enc:=enc) (w:=w) (g:=b) (n:=n) (d:=d') (os:=os)
   have hput:(putCells enc 0 d' cur).size=cur.size:=by simp [putCells]
   refine ⟨_,_,_,St,rfl,⟨rfl,rfl⟩,rfl,⟨rfl,rfl,rfl,hsz,fun x hx hn=>sortW_other hx (fun e=>hn (e ▸ hF0)),fun x cx tx zx hx=>?_⟩,fun _ h=>h,fun _ h=>.inl h,fun x hx=>Nat.lt_of_lt_of_le (he.s3 x hx) hsz,fp,fun i g' r hi=>?_,hp.dis,fun i x hx=>?_,hp.out⟩
   ·by_cases e:x=b
    ·subst e
     rw [k1] at hx
     cases hx
     exact ⟨_,_,hw,hput⟩
    ·exact ⟨cx,zx,(sortW_other (Array.getElem?_eq_some_iff.1 hx).1 e).trans hx,rfl⟩
   ·cases i with
    | zero =>
     cases hi
     refine ⟨hF,_,t,hw,by rw [hput];omega,fun i hi=>?_⟩
     have hi':i<d'.size:=by omega
     rw [row_get hi' (by omega)]
     have e:lbF (sortL ls) i=bsC (ls.getD (d'[i]!).val []):=by
      unfold lbF
      rw [← hms]
      simp [List.getD,hi']
     rw [e]
     exact rep_bs_keep (hrep _) (hkeep n d' os)
    | succ i=>simp at hi
   ·exact ⟨Nat.lt_of_lt_of_le (hp.own i x hx).1 hsz,(hp.own i x hx).2⟩
end
section
open Go.RowKit
theorem rowC_lb:RowC 1 lbF:=fun l l2 j hj=>by
 simp only [lbF,List.getD_eq_getElem?_getD]
 split
 ·rw [List.getElem?_append_left (by omega)]
 ·rw [List.getElem?_append_right (by omega),Nat.mul_one]
theorem lb_thaw {ls:List (List UInt8)}:∀ a b,a<ls.length→b<1→CEnt (lbF ls (0+(a * 1+b))) (bsC (ls.getD a [])):=fun a b ha hb=>CEnt.of_eq (by rw [show 0+(a * 1+b)=a by omega];rfl)
theorem cloneL_ac {gs:List Nat} (l:List (List UInt8)) (hl:l.length≤1000000):AC gs Tryz.prog 133 [] [lbC l] (OwnQ l.length 1 l.length (lbF l)):=by
 refine ac_of 8 Tryz.func133 rfl rfl rfl (fun al w0 F0 St0=>?_)
 refine jcr ?_;refine jq jrm ?_;refine jN ?_;refine jcs ?_;refine jcr ?_;refine jq jrm ?_;refine seq_eqNil (wanted_none rfl) rfl rfl rfl Tryz.underlying81 rfl rfl (fun h357=>?_) ?_
 ·refine jN ?_;refine jcT ?_;refine jcr ?_;refine jq jrm ?_;refine jN ?_;refine jE (own_nil 2 1 (lbF l) rfl) ?_
  refine jR (jtr ?_)
  exact end_O 0 (.inl rfl) (res_1 rfl (arv_tmp rfl)) rfl (by omega) (by omega) (fun _=>by omega) (fun j hj=>by omega)
 ·refine jN ?_;refine jcF ?_
  refine jS (jtn ?_)
  refine jcr ?_
  refine jqe (jebl 0 1 zr22 fun p1=>?_)
  refine jq jrm ?_
  refine jqm (m_appendC (l:=[]) ( rowC_lb) rfl rfl rfl rfl (Nat.le_of_eq (Nat.zero_mul _)) (fun j hj=>absurd hj (by simp)) (src_rs rfl) rfl (fun j hj=>by (simp only [Nat.div_one];exact cZ)) Tryz.underlying81 nu81 sz22 zr22 by22 rfl (by (simp;omega)) (by (simp;omega)) (fun j hj=>rfl) rfl rfl rfl (fun p2=>?_))
  refine jq jrm ?_;refine jN ?_;refine jR ?_
  exact end_O 0 (.inl rfl) (res_1 rfl (arv_tmp rfl)) rfl (by simp) (by simp) (fun _=>by simp) (fun j hj=>cZ)
theorem leL_cmp {a b:List UInt8}:leL a b=true↔0≤cmpL b a:=by
 have:=cmpL_swap a b
 unfold leL
 rw [decide_eq_true_eq]
 omega
end
section
open Go.RowKit
abbrev FrG:=(Int×List (List UInt8))×Option Nat
def frD:FrG:=((0,[]),none)
def frF (x:FrG):Nat→CV:=fl [.c (.int .i64 x.1.1),.os 0 x.2 0 x.1.2.length 1]
def kidE (x:FrG):Option Nat×Res:=(x.2,.blk x.1.2.length (lbF x.1.2))
abbrev WZ8 (fr:List (Int×List (List UInt8))):={ z:Nat×Option Nat×Option Nat×List FrG // z.2.2.2.map Prod.fst=fr }
def wrB (s:W8) (io jd:Nat) (go gd:Option Nat):Nat→CV:=fl [.os io go 0 s.fr.length 2,.os jd gd 0 s.d.length 1,.err s.k]
def wrE (s:W8) (z:WZ8 s.fr):List (Option Nat×Res):=[(some z.1.1,.blk 3 (wrB s 1 2 z.1.2.1 z.1.2.2.1)),(z.1.2.1,.blk (s.fr.length * 2) (rowF 2 frF frD z.1.2.2.2.reverse)),(z.1.2.2.1,.blk s.d.length (byF s.d)),bagE (z.1.2.2.2.map kidE)]
def wrO (n:Nat) (s:W8):Option Nat×Res:=objE n (fun z:WZ8 s.fr=>z.1.1) (wrE s)
section
variable {P:Program} {G:Gh} {c:Code} {R:Exit→AS→Prop} {n:Nat} {s:W8} {env:List (Nat×CV)} {b0:Nat→CV} {H:List (Option Nat×Res)}
theorem code_openW (i:Nat) (hi:H[i]?=some (wrO n s)) (h:∀ go gd (zs:List FrG),zs.map Prod.fst=s.fr→ACode P G c ⟨env,b0,H.set i (some n,.blk 3 (wrB s H.length (H.length+1) go gd))++[(go,.blk (s.fr.length * 2) (rowF 2 frF frD zs.reverse)),(gd,.blk s.d.length (byF s.d)),bagE (zs.map kidE)]⟩ R):ACode P G c ⟨env,b0,H⟩ R:=by
 have hlt:=(List.getElem?_eq_some_iff.1 hi).1
 refine code_unpack i hi fun z hz=>?_
 obtain ⟨⟨n',go,gd,zs⟩,hzs⟩:=z
 obtain rfl:n'=n:=hz
 refine jE (weakH i 3 (wrB s H.length (H.length+1) go gd) (n:=3) (g:=some n') (f:=wrB s 1 2 go gd) ?_ (Nat.le_refl _) fun j hj=>?_) ?_
 ·show (H.set i _++_)[i]?=_
  rw [List.getElem?_append_left (by simpa using hlt)]
  simp [hlt]
 ·rcases j with _|_|_|j
  ·exact CEnt.osI rfl
  ·exact CEnt.osI rfl
  ·exact cZ
  ·omega
 ·have:=h go gd zs hzs
  rw [← List.set_set (a:=(some n',Res.blk 3 (wrB s 1 2 go gd))),← List.set_append_left _ _ (by simpa using hlt)] at this
  exact this
theorem closeWh (n:Nat) (s:W8) (zs:List FrG) (i jo jd jb:Nat) (hzs:zs.map Prod.fst=s.fr) {go gd:Option Nat} {No Nd:Nat} {f Fo Fd:Nat→CV} (hi:H[i]?=some (some n,.blk 3 f)) (ho:H[jo]?=some (go,.blk No Fo)) (hd:H[jd]?=some (gd,.blk Nd Fd)) (hb:H[jb]?=some (bagE (zs.map kidE))) (hij:[i,jo,jd,jb].Nodup)
  (h0:CEnt (f 0) (.os 1 go 0 s.fr.length 2)) (h1:CEnt (f 1) (.os 1 gd 0 s.d.length 1)) (h2:CEnt (f 2) (.err s.k)) (hNo:s.fr.length * 2≤No) (hFo:∀ a,a<s.fr.length * 2→CEnt (Fo a) (rowF 2 frF frD zs.reverse a)) (hNd:s.d.length≤Nd) (hFd:∀ a,a<s.d.length→CEnt (Fd a) (byF s.d a)) :
  ∀ {al:List Addr} {St:Nat→Prop} {w:World} {base:Nat} {F0:Nat→Prop},HRel al St w base F0 H→HRel al St w base F0 ((((H.set i (wrO n s)).set jo (none,.dead)).set jd (none,.dead)).set jb (none,.dead)):=by
 intro al St w base F0 h
 simp only [List.nodup_cons,List.mem_cons,List.not_mem_nil,or_false,not_or,not_false_iff,List.nodup_nil,and_true] at hij
 obtain ⟨⟨e1,e2,e3⟩,⟨e4,e5⟩,e6⟩:=hij
 have hil:=(List.getElem?_eq_some_iff.1 hi).1
 have hol:=(List.getElem?_eq_some_iff.1 ho).1
 have hdl:=(List.getElem?_eq_some_iff.1 hd).1
 have hbl:=(List.getElem?_eq_some_iff.1 hb).1
 have k1:=h.weak (F:=wrB s 1 2 go gd) hi (Nat.le_refl _) fun a ha=>by
  rcases a with _|_|_|a
  ·exact h0.trans (CEnt.osI rfl)
  ·exact h1.trans (CEnt.osI rfl)
  ·exact h2
  ·omega
 have k2:=k1.weak (i:=jo) (F:=rowF 2 frF frD zs.reverse) (by rw [List.getElem?_set_ne e1];exact ho) hNo hFo
 have k3:=k2.weak (i:=jd) (F:=byF s.d) (by rw [List.getElem?_set_ne e4,List.getElem?_set_ne e2];exact hd) hNd hFd
 have k4:=k3.closeN (gd:=fun z:WZ8 s.fr=>z.1.1) (E:=wrE s) ⟨(n,go,gd,zs),hzs⟩ i [jo,jd,jb] (by simp [e1,e2,e3,e4,e5,e6]) (by simp [hil,hol,hdl,hbl]) (by
  have g1:∀ {x},((H.set i x).set jo (go,Res.blk (s.fr.length * 2) (rowF 2 frF frD zs.reverse))).set jd (gd,Res.blk s.d.length (byF s.d))=((H.set i x).set jo (go,Res.blk (s.fr.length * 2) (rowF 2 frF frD zs.reverse))).set jd (gd,Res.blk s.d.length (byF s.d)):=rfl
  simp only [pickL,List.map_cons,List.map_nil,List.getD_eq_getElem?_getD]
  rw [List.getElem?_set_ne (Ne.symm e2),List.getElem?_set_ne (Ne.symm e1),List.getElem?_set_ne (Ne.symm e4),List.getElem?_set_ne e6,List.getElem?_set_ne e5,List.getElem?_set_ne e3,hb]
  simp [hil,hol,hdl,wrE])
 have e:killL ((((H.set i (some n,Res.blk 3 (wrB s 1 2 go gd))).set jo (go,Res.blk (s.fr.length * 2) (rowF 2 frF frD zs.reverse))).set jd (gd,Res.blk s.d.length (byF s.d))).set i (objE n (fun z:WZ8 s.fr=>z.1.1) (wrE s))) [jo,jd,jb]=(((H.set i (wrO n s)).set jo (none,.dead)).set jd (none,.dead)).set jb (none,.dead):=by
  show ((((((H.set i _).set jo _).set jd _).set i _).set jo _).set jd _).set jb _=_
  rw [List.set_comm _ _ (Ne.symm e2),List.set_comm _ _ (Ne.symm e1),List.set_set,List.set_comm _ _ (Ne.symm e4),List.set_set,List.set_set]
  rfl
 rw [← e]
 exact k4
theorem closeW (n:Nat) (s:W8) (zs:List FrG) (i jo jd jb:Nat) (hzs:zs.map Prod.fst=s.fr) {go gd:Option Nat} {No Nd:Nat} {f Fo Fd:Nat→CV} (hi:H[i]?=some (some n,.blk 3 f)) (ho:H[jo]?=some (go,.blk No Fo)) (hd:H[jd]?=some (gd,.blk Nd Fd)) (hb:H[jb]?=some (bagE (zs.map kidE))) (hij:[i,jo,jd,jb].Nodup)
  (h0:CEnt (f 0) (.os 1 go 0 s.fr.length 2)) (h1:CEnt (f 1) (.os 1 gd 0 s.d.length 1)) (h2:CEnt (f 2) (.err s.k)) (hNo:s.fr.length * 2≤No) (hFo:∀ a,a<s.fr.length * 2→CEnt (Fo a) (rowF 2 frF frD zs.reverse a)) (hNd:s.d.length≤Nd) (hFd:∀ a,a<s.d.length→CEnt (Fd a) (byF s.d a)) :
  EntS G ⟨env,b0,H⟩ ⟨env,b0,(((H.set i (wrO n s)).set jo (none,.dead)).set jd (none,.dead)).set jb (none,.dead)⟩:=EntS.hrel (closeWh n s zs i jo jd jb hzs hi ho hd hb hij h0 h1 h2 hNo hFo hNd hFd)
end
end
section
variable {gs:List Nat} [Ok9 gs]
open Go.RowKit

theorem u64_byte (n:Int) (i:Nat) (h:i<8):IntKind.u8.wrap ((n % 18446744073709551616).fdiv (2 ^ (min (8 * (i:Int)).toNat IntKind.u64.bits)))=((byte (sh i n)).toNat:Nat):=by
 rw [IntKind.wrap_u8,byte_toNat]
 have hf:∀ d:Int,0≤d→(n % 18446744073709551616).fdiv d=n % 18446744073709551616 / d:=fun d hd=>Int.fdiv_eq_ediv_of_nonneg _ hd
 rcases i with _|_|_|_|_|_|_|_|i
 ·show (n % 18446744073709551616).fdiv 1 % 256=_;rw [hf _ (by decide)];simp only [sh];omega
 ·show (n % 18446744073709551616).fdiv 256 % 256=_;rw [hf _ (by decide)];simp only [sh];omega
 ·show (n % 18446744073709551616).fdiv 65536 % 256=_;rw [hf _ (by decide)];simp only [sh];omega
 ·show (n % 18446744073709551616).fdiv 16777216 % 256=_;rw [hf _ (by decide)];simp only [sh];omega
 ·show (n % 18446744073709551616).fdiv 4294967296 % 256=_;rw [hf _ (by decide)];simp only [sh];omega
 ·show (n % 18446744073709551616).fdiv 1099511627776 % 256=_;rw [hf _ (by decide)];simp only [sh];omega
 ·show (n % 18446744073709551616).fdiv 281474976710656 % 256=_;rw [hf _ (by decide)];simp only [sh];omega
 ·show (n % 18446744073709551616).fdiv 72057594037927936 % 256=_;rw [hf _ (by decide)];simp only [sh];omega
 ·omega
theorem digs_step {n:Int} {j:Nat} (h:j<8):(digs 8 n).reverse.take j++[byte (sh (7-j) n)]=(digs 8 n).reverse.take (j+1):=by
 have hl:j<(digs 8 n).reverse.length:=by rw [List.length_reverse,digs_length];exact h
 rw [List.take_succ_eq_append_getElem hl,← digs_rev_get n 8 j h]
 simp [List.getD,show j<(digs 8 n).length by rw [digs_length];exact h]
theorem digs_drop (n:Int) (m:Nat):(digs (m+1+1) n).reverse.drop 1=(digs (m+1) n).reverse:=by
 rw [digs_succ (m+1)];simp
set_option maxHeartbeats 1000000 in
theorem rput04_ac {gs:List Nat} (n:Int) (h1:-9223372036854775808≤n) (h2:n≤9223372036854775807):ACp gs Tryz.prog 89 [.c (.int .i64 n)] (bsC (putN n)):=by
 have h7:=stp_seven n h1 h2
 have hd8:(digs 8 n).reverse.length=8:=by rw [List.length_reverse,digs_length]
 refine ac_of 52 Tryz.func89 rfl rfl rfl (fun al w0 F0 St0=>?_)
 refine jcr ?_;refine jq jrm ?_;refine jN ?_;refine jcr ?_
 refine jqe (jebl 0 1 zr5 fun p1=>?_)
 refine jq jrm ?_;refine jN ?_;refine jcr ?_;refine jq jrm ?_;refine jq (rd_convI rfl rfl Tryz.underlying3 Tryz.underlying173 ((n % 18446744073709551616)) ((by rw [IntKind.wrap_u64]))) ?_;refine jq jrm ?_;refine jN ?_;refine jcs ?_;refine jcr ?_;refine jq jrm ?_;refine jN ?_;refine jB ?_;refine l_loop (α:=Nat×Option Nat) [3,5,9,10,11,12,13,14,15,16,17,18,19,20,21] (fun (j,g)=>[(5,.c (.int .i64 (7-(j:Int)))),(3,.os 0 g 0 ((digs 8 n).reverse.take j).length 1)]) (fun (j,g)=>[(g,.blk ((digs 8 n).reverse.take j).length (byF ((digs 8 n).reverse.take j)))]) (fun (j,g)=>j≤8) (fun (j,g)=>8-j) ((0,p1)) ?_ (fun _=>rfl) ?_ ?_ ?_
 ·exact Nat.zero_le _
 ·exact .cons (CEnt.int (by omega)) (.cons cZ .nil)
 ·exact .blk rfl (fun j hj=>absurd hj (Nat.not_lt_zero j)) .nil
 ·rintro ⟨j,g⟩ (hj:j≤8)
  have htl:((digs 8 n).reverse.take j).length=j:=by rw [List.length_take];omega
  refine jcs ?_;refine jcr ?_;refine jq jrm ?_;refine jq jrc ?_;refine jN ?_;refine jcc (fun h10=>?_) fun h10=>?_
  ·refine jS (jtn ?_)
   refine jcs ?_;refine jB ?_
   obtain ⟨q,hqj,hq8⟩:∃ q:Nat,7-j=q∧(7:Int)-(j:Int)=(q:Int):=⟨7-j,rfl,by omega⟩
   refine jE (weaken 5 (.c (.int .i64 (q:Nat))) (CEnt.int hq8)) ?_;refine jcg ?_;refine jq jrm ?_;refine jq jrm ?_;refine jq jrm ?_;refine jq jra ?_;refine jq (jrv .i64 .u64) ?_;refine jq (rd_shr rfl rfl rfl (by (omega)) _ rfl) ?_;refine jq (rd_convI rfl rfl Tryz.underlying173 Tryz.underlying5 ((((byte (sh q n)).toNat:Nat):Int)) (u64_byte n q (by omega))) ?_
   refine jqe (jebl 1 1 zr5 fun p2=>?_)
   refine jqm (m_appendB (l2:=[byte (sh q n)]) rfl rfl rfl (Nat.le_refl _) (fun _ _=>cZ) (src_os rfl (.inl rfl) (by decide)) rfl (hh_bytes (.cons (CEnt.int (rfl)) .nil)) Tryz.underlying22 nu22 sz5 zr5 by5 rfl (by (simp;omega)) (leaf_fl rfl rfl) rfl rfl (fun p3=>?_))
   refine jq jrm ?_;refine jN ?_
   refine jbn (jtn ?_)
   refine jcg ?_;refine jq jrm ?_;refine jq jra ?_;refine jq jrm ?_;refine jN ?_;refine jtn ?_
   refine jlend ((j+1,p3)) ?_ ?_ (h5:=?_) (h7:=?_)
   ·show j+1≤8;omega
   ·show 8-(j+1)<8-j;omega
   ·exact .cons (CEnt.int (by omega)) (.cons (CEnt.osI (by rw [← digs_step (by omega),hqj])) .nil)
   ·exact .blk (by rw [← digs_step (by omega),hqj]) (fun i hi=>CEnt.of_eq (by rw [← digs_step (by omega),hqj])) .nil
  refine jX (jte (jte (jbx (jtn ?_))))
  refine jcs ?_;refine jB ?_
  have hj8:j=8:=by omega
  refine jE (freeze 0 rfl) ?_;refine jE (thawB 3 ((digs 8 n).reverse.take j) rfl rfl (by rfl) rfl) ?_;refine jE (weaken 3 (bsC (digs (7+1) n).reverse) (CEnt.bs (by rw [hj8,List.take_of_length_le (by omega)]))) ?_;refine jE (pick_ent (H':=[]) [] (by decide) rfl) ?_;refine l_loop (α:=Nat) [3,22,23,24,25,26,27,28,29,30,31,32,33,34,35,36,37,38,39,40,41,42,43,44,45,46,47,48,49,50] (fun k=>[(3,bsC (digs (k+1) n).reverse)]) (fun _=>[]) (fun k=>k≤7∧stp k n=true) (fun k=>k) (7) ?_ (fun _=>rfl) ?_ ?_ ?_
  ·exact ⟨Nat.le_refl _,h7⟩
  ·(repeat (first|exact EntE.nil|refine EntE.cons cZ ?_|refine EntE.cons (CEnt.int (by omega)) ?_))
  ·(repeat (first|exact HEnt.nil|refine HEnt.same ?_|refine HEnt.blk rfl (fun j hj=>by rcases j with _|_|_|_|_|_|_|_|j <;> first|exact cZ|exact CEnt.int (by omega)|omega) ?_))
  ·rintro k ⟨hk,hst⟩
   have hkl:(digs (k+1) n).reverse.length=k+1:=by rw [List.length_reverse,digs_length]
   have hid:=fun h=>idle_of (l:=(digs (k+1) n).reverse) h
   refine jcs ?_;refine jcr ?_;refine jq jrm ?_;refine jq jrl ?_;refine jq jrc ?_;refine jq jrm ?_;refine jqsp 25 (fun g13=>?_) fun g13=>?_
   rotate_left
   ·refine jqs ?_;refine jqs ?_;refine jqs ?_;refine jqs ?_;refine jqs ?_;refine jqs ?_;refine jqs ?_;refine jqs ?_;refine jqs ?_;refine jqs ?_;refine jqs ?_;refine jqs ?_;refine jqs ?_;refine jqs ?_;refine jqs ?_;refine jqs ?_;refine jqs ?_;refine jqs ?_;refine jqs ?_;refine jqs ?_;refine jqs ?_;refine jqs ?_;refine jq jrpF ?_;refine jN ?_;refine jcF ?_
    refine jX (jte (jte (jbx (jtn ?_))))
    have hno:∀ j,j<k→stp j n=false:=fun j hj=>by
     cases e:stp j n with
     | false=>rfl
     | true =>
      exfalso
      obtain ⟨m,rfl⟩:∃ m,k=m+1:=⟨k-1,by omega⟩
      have h3:=stp_mono' n j m (by omega) e
      rw [← idle_digs n m hst,hid (by omega)] at h3
      omega
    refine jcr ?_;refine jq jrm ?_;refine jq jrm ?_;refine jN ?_
    refine jR (jrt (hv:=CEnt.bs (putN_of h1 h2 ⟨hk,hst,hno⟩)))
   refine jq jrm ?_;refine jq (jri (i:=0)) ?_;refine jq jrdr ?_;refine jq jrc ?_;refine jq jrm ?_;refine jqsp 30 (fun g13_2=>?_) fun g13_2=>?_
   rotate_left
   ·refine jqs ?_;refine jqs ?_;refine jqs ?_;refine jqs ?_;refine jq jrpF ?_;refine jq jrm ?_;refine jq jrm ?_;refine jq (jri (i:=0)) ?_;refine jq jrdr ?_;refine jq jrc ?_;refine jq jrm ?_;refine jqsp 41 (fun g13_3=>?_) fun g13_3=>?_
    rotate_left
    ·refine jqs ?_;refine jqs ?_;refine jqs ?_;refine jqs ?_;refine jq jrpF ?_;refine jq jrpF ?_;refine jq jrpT ?_;refine jN ?_;refine jcF ?_
     refine jX (jte (jte (jbx (jtn ?_))))
     have hno:∀ j,j<k→stp j n=false:=fun j hj=>by
      cases e:stp j n with
      | false=>rfl
      | true =>
       exfalso
       obtain ⟨m,rfl⟩:∃ m,k=m+1:=⟨k-1,by omega⟩
       have h3:=stp_mono' n j m (by omega) e
       rw [← idle_digs n m hst,hid (by omega)] at h3
       omega
     refine jcr ?_;refine jq jrm ?_;refine jq jrm ?_;refine jN ?_
     refine jR (jrt (hv:=CEnt.bs (putN_of h1 h2 ⟨hk,hst,hno⟩)))
    refine jq jrm ?_;refine jq (jri (i:=1)) ?_;refine jq jrdr ?_;refine jq jrc ?_;refine jq jrpT ?_;refine jq jrpF ?_;refine jq jrpT ?_;refine jN ?_;refine jcc (fun h13=>?_) fun h13=>?_
    rotate_left
    ·refine jX (jte (jte (jbx (jtn ?_))))
     have hno:∀ j,j<k→stp j n=false:=fun j hj=>by
      cases e:stp j n with
      | false=>rfl
      | true =>
       exfalso
       obtain ⟨m,rfl⟩:∃ m,k=m+1:=⟨k-1,by omega⟩
       have h3:=stp_mono' n j m (by omega) e
       rw [← idle_digs n m hst,hid (by omega)] at h3
       omega
     refine jcr ?_;refine jq jrm ?_;refine jq jrm ?_;refine jN ?_
     refine jR (jrt (hv:=CEnt.bs (putN_of h1 h2 ⟨hk,hst,hno⟩)))
    refine jS (jtn ?_)
    refine jB ?_
    have hi:idle (digs (k+1) n).reverse=true:=(hid (by omega)).2 (by omega)
    have hdr:(digs (k+1) n).reverse.drop 1=(digs (k-1+1) n).reverse:=by
     obtain ⟨m,rfl⟩:∃ m,k=m+1:=⟨k-1,by omega⟩
     exact digs_drop n m
    have hnx:k-1≤7∧stp (k-1) n=true:=by
     obtain ⟨m,rfl⟩:∃ m,k=m+1:=⟨k-1,by omega⟩
     rw [idle_digs n m hst] at hi
     exact ⟨by omega,hi⟩
    have hk1:0<k:=by omega
    refine jcg ?_;refine jq jrm ?_;refine jq (jrsf (hz1:=(show (1:Int)=((1:Nat):Int) from rfl))) ?_;refine jq jrm ?_;refine jN ?_
    refine jbn (jtn ?_)
    refine jlend (k-1) ?_ ?_ (h5:=?_)
    ·exact hnx
    ·show k-1<k;omega
    ·exact .cons (CEnt.bs hdr) .nil
   refine jq jrm ?_;refine jq (jri (i:=1)) ?_;refine jq jrdr ?_;refine jq jrc ?_;refine jq jrpT ?_;refine jq jrm ?_;refine jqsp 36 (fun g13_3=>?_) fun g13_3=>?_
   ·refine jqs ?_;refine jqs ?_;refine jqs ?_;refine jqs ?_;refine jqs ?_;refine jqs ?_;refine jqs ?_;refine jqs ?_;refine jqs ?_;refine jqs ?_;refine jq jrpT ?_;refine jq jrpT ?_;refine jN ?_;refine jcT ?_
    refine jS (jtn ?_)
    refine jB ?_
    have hi:idle (digs (k+1) n).reverse=true:=(hid (by omega)).2 (by omega)
    have hdr:(digs (k+1) n).reverse.drop 1=(digs (k-1+1) n).reverse:=by
     obtain ⟨m,rfl⟩:∃ m,k=m+1:=⟨k-1,by omega⟩
     exact digs_drop n m
    have hnx:k-1≤7∧stp (k-1) n=true:=by
     obtain ⟨m,rfl⟩:∃ m,k=m+1:=⟨k-1,by omega⟩
     rw [idle_digs n m hst] at hi
     exact ⟨by omega,hi⟩
    have hk1:0<k:=by omega
    refine jcg ?_;refine jq jrm ?_;refine jq (jrsf (hz1:=(show (1:Int)=((1:Nat):Int) from rfl))) ?_;refine jq jrm ?_;refine jN ?_
    refine jbn (jtn ?_)
    refine jlend (k-1) ?_ ?_ (h5:=?_)
    ·exact hnx
    ·show k-1<k;omega
    ·exact .cons (CEnt.bs hdr) .nil
   refine jq jrm ?_;refine jq (jri (i:=0)) ?_;refine jq jrdr ?_;refine jq jrc ?_;refine jq jrm ?_;refine jqsp 41 (fun g13_4=>?_) fun g13_4=>?_
   rotate_left
   ·refine jqs ?_;refine jqs ?_;refine jqs ?_;refine jqs ?_;refine jq jrpF ?_;refine jq jrpF ?_;refine jq jrpT ?_;refine jN ?_;refine jcF ?_
    refine jX (jte (jte (jbx (jtn ?_))))
    have hno:∀ j,j<k→stp j n=false:=fun j hj=>by
     cases e:stp j n with
     | false=>rfl
     | true =>
      exfalso
      obtain ⟨m,rfl⟩:∃ m,k=m+1:=⟨k-1,by omega⟩
      have h3:=stp_mono' n j m (by omega) e
      rw [← idle_digs n m hst,hid (by omega)] at h3
      omega
    refine jcr ?_;refine jq jrm ?_;refine jq jrm ?_;refine jN ?_
    refine jR (jrt (hv:=CEnt.bs (putN_of h1 h2 ⟨hk,hst,hno⟩)))
   refine jq jrm ?_;refine jq (jri (i:=1)) ?_;refine jq jrdr ?_;refine jq jrc ?_;refine jq jrpT ?_;refine jq jrpF ?_;refine jq jrpT ?_;refine jN ?_;refine jcc (fun h13=>?_) fun h13=>?_
   rotate_left
   ·refine jX (jte (jte (jbx (jtn ?_))))
    have hno:∀ j,j<k→stp j n=false:=fun j hj=>by
     cases e:stp j n with
     | false=>rfl
     | true =>
      exfalso
      obtain ⟨m,rfl⟩:∃ m,k=m+1:=⟨k-1,by omega⟩
      have h3:=stp_mono' n j m (by omega) e
      rw [← idle_digs n m hst,hid (by omega)] at h3
      omega
    refine jcr ?_;refine jq jrm ?_;refine jq jrm ?_;refine jN ?_
    refine jR (jrt (hv:=CEnt.bs (putN_of h1 h2 ⟨hk,hst,hno⟩)))
   refine jS (jtn ?_)
   refine jB ?_
   have hi:idle (digs (k+1) n).reverse=true:=(hid (by omega)).2 (by omega)
   have hdr:(digs (k+1) n).reverse.drop 1=(digs (k-1+1) n).reverse:=by
    obtain ⟨m,rfl⟩:∃ m,k=m+1:=⟨k-1,by omega⟩
    exact digs_drop n m
   have hnx:k-1≤7∧stp (k-1) n=true:=by
    obtain ⟨m,rfl⟩:∃ m,k=m+1:=⟨k-1,by omega⟩
    rw [idle_digs n m hst] at hi
    exact ⟨by omega,hi⟩
   have hk1:0<k:=by omega
   refine jcg ?_;refine jq jrm ?_;refine jq (jrsf (hz1:=(show (1:Int)=((1:Nat):Int) from rfl))) ?_;refine jq jrm ?_;refine jN ?_
   refine jbn (jtn ?_)
   refine jlend (k-1) ?_ ?_ (h5:=?_)
   ·exact hnx
   ·show k-1<k;omega
   ·exact .cons (CEnt.bs hdr) .nil
set_option maxHeartbeats 1000000 in
theorem rget04_ac {gs:List Nat} (l:List UInt8):ACp gs Tryz.prog 106 [bsC l] (.tup 2 (fl [.c (.int .i64 (getM l).1),.c (.int .i64 ((getM l).2:Nat))])):=by
 refine ac_len 0 rfl fun hlen=>?_
 have hid:=fun h=>idle_of (l:=l) h
 refine ac_of 58 Tryz.func106 rfl rfl rfl (fun al w0 F0 St0=>?_)
 refine jcr ?_;refine jq jrm ?_;refine jq jrm ?_;refine jN ?_;refine jcs ?_;refine jcr ?_;refine jq jrm ?_;refine jq jrl ?_;refine jq jrc ?_;refine jN ?_;refine jcc (fun h21=>?_) fun h21=>?_
 ·refine jcr ?_;refine jq jrm ?_;refine jq jrm ?_;refine jN ?_
  refine jR (jtr (jrt (hv:=?_)))
  have hb:getM l=(0,2):=by unfold getM;rw [if_pos (by omega)]
  rw [hb];exact cZ
 refine jS (jtn ?_)
 refine code_join (α:=Unit) [2,3,10,11,12,13,14,15,16,17,18,19,20,21,22,23,24,25,26,27,28,29,30,31,32,33,34,35,36] (fun _=>[]) (fun _=>[]) (fun _=>l.length≠0∧¬ idle l=true) (fun _=>rfl) ?_ ?_
 ·refine jcr ?_;refine jq jrm ?_;refine jq jrl ?_;refine jq jrc ?_;refine jq jrm ?_;refine jqsp 13 (fun g24=>?_) fun g24=>?_
  rotate_left
  ·refine jqs ?_;refine jqs ?_;refine jqs ?_;refine jqs ?_;refine jqs ?_;refine jqs ?_;refine jqs ?_;refine jqs ?_;refine jqs ?_;refine jqs ?_;refine jqs ?_;refine jqs ?_;refine jqs ?_;refine jqs ?_;refine jqs ?_;refine jqs ?_;refine jqs ?_;refine jqs ?_;refine jqs ?_;refine jqs ?_;refine jqs ?_;refine jqs ?_;refine jq jrpF ?_;refine jN ?_;refine jcF ?_
   refine jS (jtn ?_)
   refine jjend (()) ?_ (h5:=?_) (h7:=?_)
   ·refine ⟨by omega,?_⟩
    by_cases h1:1<l.length
    ·rw [hid h1];omega
    ·rw [idle_short l (by omega)];exact Bool.noConfusion
   ·exact .nil
   ·exact .nil
  refine jq jrm ?_;refine jq (jri (i:=0)) ?_;refine jq jrdr ?_;refine jq jrc ?_;refine jq jrm ?_;refine jqsp 18 (fun g24_2=>?_) fun g24_2=>?_
  rotate_left
  ·refine jqs ?_;refine jqs ?_;refine jqs ?_;refine jqs ?_;refine jq jrpF ?_;refine jq jrm ?_;refine jq jrm ?_;refine jq (jri (i:=0)) ?_;refine jq jrdr ?_;refine jq jrc ?_;refine jq jrm ?_;refine jqsp 29 (fun g24_3=>?_) fun g24_3=>?_
   rotate_left
   ·refine jqs ?_;refine jqs ?_;refine jqs ?_;refine jqs ?_;refine jq jrpF ?_;refine jq jrpF ?_;refine jq jrpT ?_;refine jN ?_;refine jcF ?_
    refine jS (jtn ?_)
    refine jjend (()) ?_ (h5:=?_) (h7:=?_)
    ·refine ⟨by omega,?_⟩
     by_cases h1:1<l.length
     ·rw [hid h1];omega
     ·rw [idle_short l (by omega)];exact Bool.noConfusion
    ·exact .nil
    ·exact .nil
   refine jq jrm ?_;refine jq (jri (i:=1)) ?_;refine jq jrdr ?_;refine jq jrc ?_;refine jq jrpT ?_;refine jq jrpF ?_;refine jq jrpT ?_;refine jN ?_;refine jcc (fun h24=>?_) fun h24=>?_
   ·refine jcr ?_;refine jq jrm ?_;refine jq jrm ?_;refine jN ?_
    refine jR (jtr (jrt (hv:=?_)))
    have hb:getM l=(0,4):=by unfold getM;rw [if_neg (by omega),if_pos ((hid (by omega)).2 (by omega))]
    rw [hb];exact cZ
   refine jS (jtn ?_)
   refine jjend (()) ?_ (h5:=?_) (h7:=?_)
   ·refine ⟨by omega,?_⟩
    by_cases h1:1<l.length
    ·rw [hid h1];omega
    ·rw [idle_short l (by omega)];exact Bool.noConfusion
   ·exact .nil
   ·exact .nil
  refine jq jrm ?_;refine jq (jri (i:=1)) ?_;refine jq jrdr ?_;refine jq jrc ?_;refine jq jrpT ?_;refine jq jrm ?_;refine jqsp 24 (fun g24_3=>?_) fun g24_3=>?_
  ·refine jqs ?_;refine jqs ?_;refine jqs ?_;refine jqs ?_;refine jqs ?_;refine jqs ?_;refine jqs ?_;refine jqs ?_;refine jqs ?_;refine jqs ?_;refine jq jrpT ?_;refine jq jrpT ?_;refine jN ?_;refine jcT ?_;refine jcr ?_;refine jq jrm ?_;refine jq jrm ?_;refine jN ?_
   refine jR (jtr (jrt (hv:=?_)))
   have hb:getM l=(0,4):=by unfold getM;rw [if_neg (by omega),if_pos ((hid (by omega)).2 (by omega))]
   rw [hb];exact cZ
  refine jq jrm ?_;refine jq (jri (i:=0)) ?_;refine jq jrdr ?_;refine jq jrc ?_;refine jq jrm ?_;refine jqsp 29 (fun g24_4=>?_) fun g24_4=>?_
  rotate_left
  ·refine jqs ?_;refine jqs ?_;refine jqs ?_;refine jqs ?_;refine jq jrpF ?_;refine jq jrpF ?_;refine jq jrpT ?_;refine jN ?_;refine jcF ?_
   refine jS (jtn ?_)
   refine jjend (()) ?_ (h5:=?_) (h7:=?_)
   ·refine ⟨by omega,?_⟩
    by_cases h1:1<l.length
    ·rw [hid h1];omega
    ·rw [idle_short l (by omega)];exact Bool.noConfusion
   ·exact .nil
   ·exact .nil
  refine jq jrm ?_;refine jq (jri (i:=1)) ?_;refine jq jrdr ?_;refine jq jrc ?_;refine jq jrpT ?_;refine jq jrpF ?_;refine jq jrpT ?_;refine jN ?_;refine jcc (fun h24=>?_) fun h24=>?_
  ·refine jcr ?_;refine jq jrm ?_;refine jq jrm ?_;refine jN ?_
   refine jR (jtr (jrt (hv:=?_)))
   have hb:getM l=(0,4):=by unfold getM;rw [if_neg (by omega),if_pos ((hid (by omega)).2 (by omega))]
   rw [hb];exact cZ
  refine jS (jtn ?_)
  refine jjend (()) ?_ (h5:=?_) (h7:=?_)
  ·refine ⟨by omega,?_⟩
   by_cases h1:1<l.length
   ·rw [hid h1];omega
   ·rw [idle_short l (by omega)];exact Bool.noConfusion
  ·exact .nil
  ·exact .nil
 ·rintro u ⟨hl0,hni⟩
  refine jcs ?_;refine jcr ?_;refine jq jrm ?_;refine jq jrl ?_;refine jq jrc ?_;refine jN ?_;refine jcc (fun h27=>?_) fun h27=>?_
  ·refine jcr ?_;refine jq jrm ?_;refine jq jrm ?_;refine jN ?_
   refine jR (jtr (jrt (hv:=?_)))
   have hb:getM l=(0,1):=by unfold getM;rw [if_neg (by omega),if_neg hni,if_pos (by omega)]
   rw [hb];exact cZ
  refine jS (jtn ?_)
  refine jcr ?_;refine jq jrm ?_;refine jN ?_;refine code_join (α:=Unit) [4,40,41,42,43] (fun _=>[(4,.c (.int .u64 (vk l 0 % 18446744073709551616)))]) (fun _=>[]) (fun _=>True) (fun _=>rfl) ?_ ?_
  ·refine jcr ?_;refine jq jrm ?_;refine jq (jri (i:=0)) ?_;refine jq jrdr ?_;refine jq jrc ?_;refine jN ?_;refine jcc (fun h31=>?_) fun h31=>?_
   rotate_left
   ·refine jS (jtn ?_)
    refine jjend (()) ?_ (h5:=?_) (h7:=?_)
    ·trivial
    ·exact .cons (CEnt.int (by unfold vk;rw [if_pos rfl];split <;> omega)) .nil
    ·exact .nil
   refine jcg ?_;refine jq jrm ?_;refine jN ?_;refine jtn ?_
   refine jjend (()) ?_ (h5:=?_) (h7:=?_)
   ·trivial
   ·exact .cons (CEnt.int (by unfold vk;rw [if_pos rfl];split <;> omega)) .nil
   ·exact .nil
  ·rintro u _
   refine jcs ?_;refine jcr ?_;refine jq jrm ?_;refine jq jrl ?_;refine jq jrm ?_;refine jN ?_;refine jB ?_;refine l_loop (α:=Nat) [4,6,46,47,48,49,50,51,52,53,54,55] (fun i=>[(46,.c (.int .i64 (i:Nat))),(4,.c (.int .u64 (vk l i % 18446744073709551616)))]) (fun _=>[]) (fun i=>i≤l.length) (fun i=>l.length-i) (0) ?_ (fun _=>rfl) ?_ ?_ ?_
   ·exact Nat.zero_le _
   ·exact .cons cZ (.cons cZ .nil)
   ·(repeat (first|exact HEnt.nil|refine HEnt.same ?_|refine HEnt.blk rfl (fun j hj=>by rcases j with _|_|_|_|_|_|_|_|j <;> first|exact cZ|exact CEnt.int (by omega)|omega) ?_))
   ·rintro i (hi:i≤l.length)
    refine jcr ?_;refine jq jrc ?_;refine jN ?_;refine jcs ?_;refine jcc (fun h34=>?_) fun h34=>?_
    rotate_left
    ·refine jX (jte (jte (jbx (jtn ?_))))
     have hil:i=l.length:=by omega
     have hvb:=valS_bd8 l (by omega)
     have hvk:vk l l.length=valS l:=by unfold vk;rw [if_neg (by omega),List.take_length]
     have hb:getM l=(valS l,0):=by unfold getM;rw [if_neg (by omega),if_neg hni,if_neg (by omega)]
     refine jcr ?_;refine jq jrm ?_;refine jq (rd_convI rfl rfl Tryz.underlying173 Tryz.underlying3 ((valS l)) ((by rw [hil,hvk,IntKind.wrap_i64];omega))) ?_;refine jq jrm ?_;refine jq jrm ?_;refine jN ?_
     refine jR (jrt (hv:=?_))
     rw [hb];exact cZ
    refine jS (jtn ?_)
    refine jcs ?_;refine jB ?_;refine jcr ?_;refine jq jri ?_;refine jq jrdr ?_;refine jq jrm ?_;refine jN ?_;refine jcg ?_;refine jq jrm ?_;refine jq (rd_mulW rfl rfl rfl ((IntKind.u64.wrap (vk l i % 18446744073709551616 * 256))) (rfl)) ?_;refine jq jrm ?_;refine jq (rd_convI rfl rfl Tryz.underlying5 Tryz.underlying173 ((((l.getD i 0).toNat:Nat):Int)) (wrap_id (k:=.u64) (by have:=(l.getD i 0).toNat_lt;show _∧_;omega))) ?_;refine jq (rd_addW rfl rfl rfl ((vk l (i+1) % 18446744073709551616)) ((by rw [vk_succ l i (by omega)];exact u64_step _ _))) ?_;refine jq jrm ?_;refine jN ?_
    refine jbn (jtn ?_)
    refine jcg ?_;refine jq jra ?_;refine jq jrm ?_;refine jN ?_;refine jtn ?_
    refine jlend (i+1) ?_ ?_ (h5:=?_)
    ·show i+1≤l.length;omega
    ·show l.length-(i+1)<l.length-i;omega
    ·exact .cons (CEnt.int (by omega)) (.cons cZ .nil)
end
section
variable {gs:List Nat} [Ok9 gs]
open Go.RowKit

def rowsF (r:List (List (List UInt8))) (j:Nat):CV:=lbC (r.getD j [])
def rwB (s:R8) (jr:Nat) (gr:Option Nat):Nat→CV:=fl [isC s.tags,.os jr gr 0 s.rows.length 1,.c (.int .i64 (s.e:Nat))]
def rwE (s:R8) (z:Nat×Option Nat):List (Option Nat×Res):=[(some z.1,.blk 3 (rwB s 1 z.2)),(z.2,.blk s.rows.length (rowsF s.rows))]
def rwO (n:Nat) (s:R8):Option Nat×Res:=objE n (fun z:Nat×Option Nat=>z.1) (rwE s)
section
variable {P:Program} {G:Gh} {c:Code} {R:Exit→AS→Prop} {n:Nat} {s:R8} {env:List (Nat×CV)} {b0:Nat→CV} {H:List (Option Nat×Res)}
theorem code_openRW (i:Nat) (hi:H[i]?=some (rwO n s)) (h:∀ gr,ACode P G c ⟨env,b0,H.set i (some n,.blk 3 (rwB s H.length gr))++[(gr,.blk s.rows.length (rowsF s.rows))]⟩ R):ACode P G c ⟨env,b0,H⟩ R:=by
 have hlt:=(List.getElem?_eq_some_iff.1 hi).1
 refine code_unpack i hi fun z hz=>?_
 obtain ⟨n',gr⟩:=z
 obtain rfl:n'=n:=hz
 refine jE (weakH i 3 (rwB s H.length gr) (n:=3) (g:=some n') (f:=rwB s 1 gr) ?_ (Nat.le_refl _) fun j hj=>?_) ?_
 ·show (H.set i _++_)[i]?=_
  rw [List.getElem?_append_left (by simpa using hlt)]
  simp [hlt]
 ·rcases j with _|_|_|j
  ·exact cZ
  ·exact CEnt.osI rfl
  ·exact cZ
  ·omega
 ·have:=h gr
  rw [← List.set_set (a:=(some n',Res.blk 3 (rwB s 1 gr))),← List.set_append_left _ _ (by simpa using hlt)] at this
  exact this
theorem closeRWh (n:Nat) (s:R8) (i j:Nat) {gr:Option Nat} {N:Nat} {f F:Nat→CV} (hi:H[i]?=some (some n,.blk 3 f)) (hj:H[j]?=some (gr,.blk N F)) (hij:Nat.beq i j=false) (h0:CEnt (f 0) (isC s.tags)) (h1:CEnt (f 1) (.os 1 gr 0 s.rows.length 1)) (h2:CEnt (f 2) (.c (.int .i64 (s.e:Nat)))) (hN:s.rows.length≤N) (hF:∀ a,a<s.rows.length→CEnt (F a) (rowsF s.rows a)) :
  ∀ {al:List Addr} {St:Nat→Prop} {w:World} {base:Nat} {F0:Nat→Prop},HRel al St w base F0 H→HRel al St w base F0 ((H.set i (rwO n s)).set j (none,.dead)):=by
 intro al St w base F0 h
 have hij:=Nat.ne_of_beq_eq_false hij
 have hil:=(List.getElem?_eq_some_iff.1 hi).1
 have hjl:=(List.getElem?_eq_some_iff.1 hj).1
 have k1:=h.weak (F:=rwB s 1 gr) hi (Nat.le_refl _) fun a ha=>by
  rcases a with _|_|_|a
  ·exact h0
  ·exact h1
  ·exact h2
  ·omega
 have k2:=k1.weak (i:=j) (F:=rowsF s.rows) (by rw [List.getElem?_set_ne hij];exact hj) hN hF
 have k4:=k2.closeN (gd:=fun z:Nat×Option Nat=>z.1) (E:=rwE s) (n,gr) i [j] (by simp [hij]) (by simp [hil,hjl]) (by
  simp only [pickL,List.map_cons,List.map_nil,List.getD_eq_getElem?_getD]
  rw [List.getElem?_set_ne (Ne.symm hij)]
  simp [hil,hjl,rwE])
 have e:killL (((H.set i (some n,Res.blk 3 (rwB s 1 gr))).set j (gr,Res.blk s.rows.length (rowsF s.rows))).set i (objE n (fun z:Nat×Option Nat=>z.1) (rwE s))) [j]=(H.set i (rwO n s)).set j (none,.dead):=by
  show ((((H.set i _).set j _).set i _).set j _)=_
  rw [List.set_comm _ _ (Ne.symm hij),List.set_set,List.set_set]
  rfl
 rw [← e]
 exact k4
theorem closeRW (n:Nat) (s:R8) (i j:Nat) {gr:Option Nat} {N:Nat} {f F:Nat→CV} (hi:H[i]?=some (some n,.blk 3 f)) (hj:H[j]?=some (gr,.blk N F)) (hij:Nat.beq i j=false) (h0:CEnt (f 0) (isC s.tags)) (h1:CEnt (f 1) (.os 1 gr 0 s.rows.length 1)) (h2:CEnt (f 2) (.c (.int .i64 (s.e:Nat)))) (hN:s.rows.length≤N) (hF:∀ a,a<s.rows.length→CEnt (F a) (rowsF s.rows a)) :
  EntS G ⟨env,b0,H⟩ ⟨env,b0,(H.set i (rwO n s)).set j (none,.dead)⟩:=EntS.hrel (closeRWh n s i j hi hj hij h0 h1 h2 hN hF)
end
theorem end_closeRW {P:Program} {G:Gh} {fn:Func} {e:Exit} {v m:CV} {env:List (Nat×CV)} {b0:Nat→CV} {H:List (Option Nat×Res)} (he:e=.ret∨e=.normal) (n:Nat) (s:R8) (j:Nat) {gr:Option Nat} {N:Nat} {f F:Nat→CV} (hres:ARes P G fn ⟨env,b0,(H.set 0 (rwO n s)).set j (none,.dead)⟩ v) (hv:CEnt v m) (hi:H[0]?=some (some n,.blk 3 f)) (hj:H[j]?=some (gr,.blk N F)) (hij:Nat.beq 0 j=false) (h0:CEnt (f 0) (isC s.tags)) (h1:CEnt (f 1) (.os 1 gr 0 s.rows.length 1)) (h2:CEnt (f 2) (.c (.int .i64 (s.e:Nat)))) (hN:s.rows.length≤N) (hF:∀ a,a<s.rows.length→CEnt (F a) (rowsF s.rows a)) :
  bodyR P G fn (fun r H'=>r=m∧H'=[rwO n s]) e ⟨env,b0,H⟩:=by
 refine end_hr (closeRWh n s 0 j hi hj hij h0 h1 h2 hN hF) (end_H he ?_ hres hv)
 have hlt:=(List.getElem?_eq_some_iff.1 hi).1
 show (List.set _ _ _)[0]?=_
 rw [List.getElem?_set_ne (Ne.symm (Nat.ne_of_beq_eq_false hij))]
 simp [hlt]
theorem rowC_rows:RowC 1 rowsF:=fun l l2 j hj=>by
 simp only [rowsF,List.getD_eq_getElem?_getD]
 split
 ·rw [List.getElem?_append_left (by omega)]
 ·rw [List.getElem?_append_right (by omega),Nat.mul_one]
theorem rows_set {l:List (List (List UInt8))} {i:Nat} {x:List (List UInt8)} {j:Nat} {c:CV} (hc:CEnt c (lbC x)) (hj:j<l.length):CEnt (updF (rowsF l) i [c] j) (rowsF (l.set i x) j):=by
 rw [updF_get]
 by_cases h:j=i
 ·subst h
  rw [if_pos (by simp)]
  have e:rowsF (l.set j x) j=lbC x:=by simp [rowsF,List.getD_eq_getElem?_getD,hj]
  rw [e,Nat.sub_self]
  exact hc
 ·rw [if_neg (by simp;omega)]
  refine CEnt.of_eq ?_
  simp [rowsF,List.getD_eq_getElem?_getD,List.getElem?_set_ne (Ne.symm h)]
structure OkR (s:R8):Prop where
 n:s.tags.length≤100000
 r:s.rows.length≤100000
 k:∀ x ∈ s.rows,x.length≤1000000
theorem okR_at {s:R8} (h:OkR s) (j:Nat):(s.rows.getD j []).length≤1000000:=by
 rw [List.getD_eq_getElem?_getD]
 cases e:s.rows[j]? with
 | none=>simp
 | some x=>simpa using h.k x (List.mem_of_getElem? e)
def moreS (s:R8) (i:Nat):R8:=⟨s.tags,s.rows++List.replicate i [],s.e⟩
theorem more_pad (s:R8) (i m:Nat) (h:i=m-s.rows.length):moreS s i=⟨s.tags,padR m s.rows,s.e⟩:=by subst h;rfl
theorem more_succ (s:R8) (i:Nat):(moreS s i).rows++[[]]=(moreS s (i+1)).rows:=by simp [moreS,List.replicate_succ',List.append_assoc]
theorem radd08_ac {gs:List Nat} (n:Nat) (s:R8) (b:List UInt8) (hs:OkR s):AC gs Tryz.prog 56 [rwO n s] [.op 0 (some n) 0,bsC b] (fun r H'=>r=.c (.tuple #[])∧H'=[rwO n (raddS b s)]):=by
 have hsn:=hs.n
 have hsr:=hs.r
 refine ac_of 48 Tryz.func56 rfl rfl rfl (fun al w0 F0 St0=>?_)
 refine jcs ?_;refine jB ?_;refine code_openRW 0 rfl fun gr=>?_;refine l_loop (α:=Nat×Option Nat) [5,6,7,8,9,10,11,12,13,14,15,16,17,18,19,20,21,22,23,24] (fun i=>[]) (fun (i,g)=>[(some n,.blk 3 (rwB (moreS s i) 1 g)),(g,.blk (moreS s i).rows.length (rowsF (moreS s i).rows))]) (fun i=>i.1≤s.tags.length+1-s.rows.length) (fun i=>s.tags.length+1-s.rows.length-i.1) ((0,gr)) ?_ (fun _=>rfl) ?_ ?_ ?_
 ·exact Nat.zero_le _
 ·(repeat (exact EntE.nil))
 ·(show HEnt _ [(some n,Res.blk 3 (rwB (moreS s 0) 1 gr)),(gr,Res.blk (moreS s 0).rows.length (rowsF (moreS s 0).rows))];rw [show moreS s 0=s by unfold moreS;simp];exact HEnt.refl _)
 ·rintro ⟨i,g⟩ (hi:i≤s.tags.length+1-s.rows.length)
  have hml:(moreS s i).rows.length=s.rows.length+i:=by simp [moreS]
  have hmt:(moreS s i).tags.length=s.tags.length:=rfl
  refine jcs ?_;refine jcs ?_;refine jcd (.rd 0 (.rd 1 (.rd 2 (.rd 3 (.rd 4 (.rd 5 (.rd 6 (.rd 7 (.rd 8 (.rd 9 (.rd 10 .done))))))))))) ?_;refine jyq jrm ?_;refine jyq jrnc ?_;refine jyq (jrfa 1 1 false) ?_;refine jyo jrdo ?_;refine jyq jrl ?_;refine jyq jrm ?_;refine jyq jrnc ?_;refine jyq (jrfa 0 1 false) ?_;refine jyo jrdo ?_;refine jyq jrl ?_;refine jyq jrc ?_;refine jyd ?_;refine jtn ?_;refine jcc (fun h72=>?_) fun h72=>?_
  ·refine jS (jtn ?_)
   refine jB ?_;refine jcg ?_;refine jq jrm ?_;refine jq jrm ?_;refine jq jrnc ?_;refine jq (jrfa 1 1 false) ?_;refine jqo jrdo ?_
   refine jqe (jebl 1 1 zr81 fun p1=>?_)
   refine seq_ent (weakH 2 1 (rowsF [[]]) rfl (Nat.le_refl _) (fun j hj=>by rcases j with _|j <;> first|exact CEnt.nilS _ _|omega)) ?_
   refine jqm (m_appendC rowC_rows (l2:=[[]]) rfl rfl rfl rfl (Nat.le_of_eq (Nat.mul_one _)) (fun _ _=>cZ) (src_os rfl (.inl rfl) (by decide)) rfl (fun j hj=>by rw [Nat.zero_add];exact cZ) Tryz.underlying57 nu57 sz81 zr81 by81 rfl (by simp;omega) (by simp;omega) (fun j hj=>rfl) rfl rfl (Nat.mul_one _) (fun p2=>?_))
   refine jq jrnc ?_;refine jq (jrfa 1 1 false) ?_
   refine jqm (jmstF 1 (rwB (moreS s (i+1)) 1 p2) ?_ ?_)
   ·exact (fun j hj=>by rcases j with _|_|_|j <;> first|exact cZ|exact CEnt.osI (by rw [more_succ])|omega)
   refine jN ?_
   refine jbn (jtn ?_)
   refine jlend ((i+1,p2)) ?_ ?_ (h7:=?_)
   ·(show i+1≤_;omega)
   ·(show _-(i+1)<_-i;omega)
   ·simp only [more_succ];exact HEnt.refl _
  refine jX (jte (jte (jbx (jtn ?_))))
  refine jcr ?_;refine jq jrm ?_;refine jq jrnc ?_;refine jq (jrfa 0 1 false) ?_;refine jqo jrdo ?_;refine jq jrl ?_;refine jq jrm ?_;refine jN ?_
  have hiE:i=s.tags.length+1-s.rows.length:=by omega
  have hk:=okR_at hs s.tags.length
  have hpl:=pad_len (s.tags.length+1) s.rows
  dsimp only
  rw [more_pad s i _ hiE]
  rw [more_pad s i _ hiE] at hml
  have hk2:((padR (s.tags.length+1) s.rows)[s.tags.length]?.getD []).length≤1000000:=by rw [← List.getD_eq_getElem?_getD,pad_get];exact hk
  refine jcdL n (.rd 0 (.rd 1 (.rd 2 (.rd 3 (.rd 4 (.rd 6 (.rd 7 (.rd 8 (.rd 9 (.rd 10 (.rd 11 (.rd 12 (.rd 14 (.two 5 (.two 13 (.one 15 (.one 16 (.rd 17 (.one 18 .done)))) 15 (.one 13 (.one 16 (.rd 17 (.one 18 .done))))) 15 (.one 5 (.one 13 (.one 16 (.rd 17 (.one 18 .done))))))))))))))))))) ?_;refine jLq jrm ?_;refine jLq jrnc ?_;refine jLq (jrfa 1 1 false) ?_;refine jLL jlrd ?_;refine jLq jrm ?_;refine jLq jrm ?_;refine jLq jrnc ?_;refine jLq (jrfa 1 1 false) ?_;refine jLL jlrd ?_;refine jLq jrm ?_;refine jLq jri ?_;refine jLo jrdo ?_;refine jLq jrm ?_;refine jLtwo ?_ ?_
  ·refine jLe 0 (jebl 0 1 zr22 fun p1=>?_)
   refine jLtwo ?_ ?_
   ·first|refine jLm 0 1 (m_appendCX rowC_lb (l:=[]) (l2:=(padR (s.tags.length+1) s.rows).getD s.tags.length []) rfl rfl rfl rfl (Nat.le_of_eq (Nat.zero_mul _)) (fun j hj=>absurd hj (by simp)) (src_rs rfl) rfl (fun j hj=>by (simp only [Nat.div_one];exact cZ)) Tryz.underlying81 nu81 sz22 zr22 by22 rfl (by simp only [List.length_nil,pad_get];omega) (by simp only [List.length_nil,pad_get];omega) (fun j hj=>rfl) rfl rfl (Nat.mul_one _) (fun p2=>?_))|refine jLm 0 2 (m_appendCX rowC_lb (l:=[]) (l2:=(padR (s.tags.length+1) s.rows).getD s.tags.length []) rfl rfl rfl rfl (Nat.le_of_eq (Nat.zero_mul _)) (fun j hj=>absurd hj (by simp)) (src_rs rfl) rfl (fun j hj=>by (simp only [Nat.div_one];exact cZ)) Tryz.underlying81 nu81 sz22 zr22 by22 rfl (by simp only [List.length_nil,pad_get];omega) (by simp only [List.length_nil,pad_get];omega) (fun j hj=>rfl) rfl rfl (Nat.mul_one _) (fun p2=>?_))|refine jLm 0 3 (m_appendCX rowC_lb (l:=[]) (l2:=(padR (s.tags.length+1) s.rows).getD s.tags.length []) rfl rfl rfl rfl (Nat.le_of_eq (Nat.zero_mul _)) (fun j hj=>absurd hj (by simp)) (src_rs rfl) rfl (fun j hj=>by first|exact cZ|(simp only [Nat.div_one];exact cZ)) Tryz.underlying81 nu81 sz22 zr22 by22 rfl (by simp only [List.length_nil,pad_get];omega) (by simp only [List.length_nil,pad_get];omega) (fun j hj=>rfl) rfl rfl (Nat.mul_one _) (fun p2=>?_))|refine jLm 0 4 (m_appendCX rowC_lb (l:=[]) (l2:=(padR (s.tags.length+1) s.rows).getD s.tags.length []) rfl rfl rfl rfl (Nat.le_of_eq (Nat.zero_mul _)) (fun j hj=>absurd hj (by simp)) (src_rs rfl) rfl (fun j hj=>by first|exact cZ|(simp only [Nat.div_one];exact cZ)) Tryz.underlying81 nu81 sz22 zr22 by22 rfl (by simp only [List.length_nil,pad_get];omega) (by simp only [List.length_nil,pad_get];omega) (fun j hj=>rfl) rfl rfl (Nat.mul_one _) (fun p2=>?_))|refine jLm 0 5 (m_appendCX rowC_lb (l:=[]) (l2:=(padR (s.tags.length+1) s.rows).getD s.tags.length []) rfl rfl rfl rfl (Nat.le_of_eq (Nat.zero_mul _)) (fun j hj=>absurd hj (by simp)) (src_rs rfl) rfl (fun j hj=>by first|exact cZ|(simp only [Nat.div_one];exact cZ)) Tryz.underlying81 nu81 sz22 zr22 by22 rfl (by simp only [List.length_nil,pad_get];omega) (by simp only [List.length_nil,pad_get];omega) (fun j hj=>rfl) rfl rfl (Nat.mul_one _) (fun p2=>?_))|refine jLm 0 6 (m_appendCX rowC_lb (l:=[]) (l2:=(padR (s.tags.length+1) s.rows).getD s.tags.length []) rfl rfl rfl rfl (Nat.le_of_eq (Nat.zero_mul _)) (fun j hj=>absurd hj (by simp)) (src_rs rfl) rfl (fun j hj=>by first|exact cZ|(simp only [Nat.div_one];exact cZ)) Tryz.underlying81 nu81 sz22 zr22 by22 rfl (by simp only [List.length_nil,pad_get];omega) (by simp only [List.length_nil,pad_get];omega) (fun j hj=>rfl) rfl rfl (Nat.mul_one _) (fun p2=>?_))|refine jLm 0 7 (m_appendCX rowC_lb (l:=[]) (l2:=(padR (s.tags.length+1) s.rows).getD s.tags.length []) rfl rfl rfl rfl (Nat.le_of_eq (Nat.zero_mul _)) (fun j hj=>absurd hj (by simp)) (src_rs rfl) rfl (fun j hj=>by first|exact cZ|(simp only [Nat.div_one];exact cZ)) Tryz.underlying81 nu81 sz22 zr22 by22 rfl (by simp only [List.length_nil,pad_get];omega) (by simp only [List.length_nil,pad_get];omega) (fun j hj=>rfl) rfl rfl (Nat.mul_one _) (fun p2=>?_))
    refine jLe 0 (jebl 1 1 zr22 fun p3=>?_)
    first|refine jLm 0 1 (m_appendCX (rowC_lb) (l2:=[b]) rfl rfl rfl rfl (by omega) (fun _ _=>cZ) (src_os rfl (.inl rfl) (by decide)) rfl (fun j hj=>by rcases j with _|j <;> first|exact cZ|exact CEnt.int (by omega)|(exfalso;simp at hj <;> omega)) Tryz.underlying81 nu81 sz22 zr22 by22 rfl (by (simp;omega)) (by (simp;omega)) (leaf_flk rfl rfl) rfl rfl rfl (fun p4=>?_))|refine jLm 0 2 (m_appendCX (rowC_lb) (l2:=[b]) rfl rfl rfl rfl (by omega) (fun _ _=>cZ) (src_os rfl (.inl rfl) (by decide)) rfl (fun j hj=>by rcases j with _|j <;> first|exact cZ|exact CEnt.int (by omega)|(exfalso;simp at hj <;> omega)) Tryz.underlying81 nu81 sz22 zr22 by22 rfl (by (simp;omega)) (by (simp;omega)) (leaf_flk rfl rfl) rfl rfl rfl (fun p4=>?_))|refine jLm 0 3 (m_appendCX (rowC_lb) (l2:=[b]) rfl rfl rfl rfl (by first|exact Nat.le_refl _|omega) (fun _ _=>cZ) (src_os rfl (.inl rfl) (by decide)) rfl (fun j hj=>by rcases j with _|j <;> first|exact cZ|exact CEnt.int (by omega)|(exfalso;simp at hj <;> omega)) Tryz.underlying81 nu81 sz22 zr22 by22 rfl (by first|omega|(simp;done)|(simp;omega)|(simp at *;omega)) (by first|omega|(simp;done)|(simp;omega)|(simp at *;omega)) (leaf_flk rfl rfl) rfl rfl rfl (fun p4=>?_))|refine jLm 0 4 (m_appendCX (rowC_lb) (l2:=[b]) rfl rfl rfl rfl (by first|exact Nat.le_refl _|omega) (fun _ _=>cZ) (src_os rfl (.inl rfl) (by decide)) rfl (fun j hj=>by rcases j with _|j <;> first|exact cZ|exact CEnt.int (by omega)|(exfalso;simp at hj <;> omega)) Tryz.underlying81 nu81 sz22 zr22 by22 rfl (by first|omega|(simp;done)|(simp;omega)|(simp at *;omega)) (by first|omega|(simp;done)|(simp;omega)|(simp at *;omega)) (leaf_flk rfl rfl) rfl rfl rfl (fun p4=>?_))|refine jLm 0 5 (m_appendCX (rowC_lb) (l2:=[b]) rfl rfl rfl rfl (by first|exact Nat.le_refl _|omega) (fun _ _=>cZ) (src_os rfl (.inl rfl) (by decide)) rfl (fun j hj=>by rcases j with _|j <;> first|exact cZ|exact CEnt.int (by omega)|(exfalso;simp at hj <;> omega)) Tryz.underlying81 nu81 sz22 zr22 by22 rfl (by first|omega|(simp;done)|(simp;omega)|(simp at *;omega)) (by first|omega|(simp;done)|(simp;omega)|(simp at *;omega)) (leaf_flk rfl rfl) rfl rfl rfl (fun p4=>?_))|refine jLm 0 6 (m_appendCX (rowC_lb) (l2:=[b]) rfl rfl rfl rfl (by first|exact Nat.le_refl _|omega) (fun _ _=>cZ) (src_os rfl (.inl rfl) (by decide)) rfl (fun j hj=>by rcases j with _|j <;> first|exact cZ|exact CEnt.int (by omega)|(exfalso;simp at hj <;> omega)) Tryz.underlying81 nu81 sz22 zr22 by22 rfl (by first|omega|(simp;done)|(simp;omega)|(simp at *;omega)) (by first|omega|(simp;done)|(simp;omega)|(simp at *;omega)) (leaf_flk rfl rfl) rfl rfl rfl (fun p4=>?_))|refine jLm 0 7 (m_appendCX (rowC_lb) (l2:=[b]) rfl rfl rfl rfl (by first|exact Nat.le_refl _|omega) (fun _ _=>cZ) (src_os rfl (.inl rfl) (by decide)) rfl (fun j hj=>by rcases j with _|j <;> first|exact cZ|exact CEnt.int (by omega)|(exfalso;simp at hj <;> omega)) Tryz.underlying81 nu81 sz22 zr22 by22 rfl (by first|omega|(simp;done)|(simp;omega)|(simp at *;omega)) (by first|omega|(simp;done)|(simp;omega)|(simp at *;omega)) (leaf_flk rfl rfl) rfl rfl rfl (fun p4=>?_))
    refine jLq jri ?_
    first
     |(refine zl_ent (freeze 2 rfl) ?_;refine zl_ent (thaw 46 (fun a _=>bsC (((padR (s.tags.length+1) s.rows).getD s.tags.length []++[b]).getD a [])) rfl rfl (by simp) (fun a c ha hc=>by obtain rfl:c=0:=(by omega);rw [Nat.zero_add,Nat.mul_one,Nat.add_zero];exact cZ)) ?_)
     |(refine zl_ent (freeze 3 rfl) ?_;refine zl_ent (thaw 46 (fun a _=>bsC (((padR (s.tags.length+1) s.rows).getD s.tags.length []++[b]).getD a [])) rfl rfl (by simp) (fun a c ha hc=>by obtain rfl:c=0:=(by omega);rw [Nat.zero_add,Nat.mul_one,Nat.add_zero];exact cZ)) ?_)
    refine jLm 0 1 (jmstFX 1 (rowsF ((padR (s.tags.length+1) s.rows).set s.tags.length ((padR (s.tags.length+1) s.rows).getD s.tags.length []++[b]))) ?_ ?_)
    ·exact (fun j hj=>rows_set cZ hj)
    refine jLd ?_
    exact end_closeRW (.inr rfl) n (raddS b s) 1 (res_0 rfl) cZ rfl rfl rfl (by exact cZ) (by exact CEnt.osI (by simp [raddS])) (by exact cZ) (by simp [raddS]) (fun _ _=>by exact cZ)
   ·refine jLe 0 (jebl 1 1 zr22 fun p2=>?_)
    first|refine jLm 0 1 (m_appendCX rowC_lb (l:=[]) (l2:=(padR (s.tags.length+1) s.rows).getD s.tags.length []) rfl rfl rfl rfl (Nat.le_of_eq (Nat.zero_mul _)) (fun j hj=>absurd hj (by simp)) (src_rs rfl) rfl (fun j hj=>by (simp only [Nat.div_one];exact cZ)) Tryz.underlying81 nu81 sz22 zr22 by22 rfl (by simp only [List.length_nil,pad_get];omega) (by simp only [List.length_nil,pad_get];omega) (fun j hj=>rfl) rfl rfl (Nat.mul_one _) (fun p3=>?_))|refine jLm 0 2 (m_appendCX rowC_lb (l:=[]) (l2:=(padR (s.tags.length+1) s.rows).getD s.tags.length []) rfl rfl rfl rfl (Nat.le_of_eq (Nat.zero_mul _)) (fun j hj=>absurd hj (by simp)) (src_rs rfl) rfl (fun j hj=>by (simp only [Nat.div_one];exact cZ)) Tryz.underlying81 nu81 sz22 zr22 by22 rfl (by simp only [List.length_nil,pad_get];omega) (by simp only [List.length_nil,pad_get];omega) (fun j hj=>rfl) rfl rfl (Nat.mul_one _) (fun p3=>?_))|refine jLm 0 3 (m_appendCX rowC_lb (l:=[]) (l2:=(padR (s.tags.length+1) s.rows).getD s.tags.length []) rfl rfl rfl rfl (Nat.le_of_eq (Nat.zero_mul _)) (fun j hj=>absurd hj (by simp)) (src_rs rfl) rfl (fun j hj=>by first|exact cZ|(simp only [Nat.div_one];exact cZ)) Tryz.underlying81 nu81 sz22 zr22 by22 rfl (by simp only [List.length_nil,pad_get];omega) (by simp only [List.length_nil,pad_get];omega) (fun j hj=>rfl) rfl rfl (Nat.mul_one _) (fun p3=>?_))|refine jLm 0 4 (m_appendCX rowC_lb (l:=[]) (l2:=(padR (s.tags.length+1) s.rows).getD s.tags.length []) rfl rfl rfl rfl (Nat.le_of_eq (Nat.zero_mul _)) (fun j hj=>absurd hj (by simp)) (src_rs rfl) rfl (fun j hj=>by first|exact cZ|(simp only [Nat.div_one];exact cZ)) Tryz.underlying81 nu81 sz22 zr22 by22 rfl (by simp only [List.length_nil,pad_get];omega) (by simp only [List.length_nil,pad_get];omega) (fun j hj=>rfl) rfl rfl (Nat.mul_one _) (fun p3=>?_))|refine jLm 0 5 (m_appendCX rowC_lb (l:=[]) (l2:=(padR (s.tags.length+1) s.rows).getD s.tags.length []) rfl rfl rfl rfl (Nat.le_of_eq (Nat.zero_mul _)) (fun j hj=>absurd hj (by simp)) (src_rs rfl) rfl (fun j hj=>by first|exact cZ|(simp only [Nat.div_one];exact cZ)) Tryz.underlying81 nu81 sz22 zr22 by22 rfl (by simp only [List.length_nil,pad_get];omega) (by simp only [List.length_nil,pad_get];omega) (fun j hj=>rfl) rfl rfl (Nat.mul_one _) (fun p3=>?_))|refine jLm 0 6 (m_appendCX rowC_lb (l:=[]) (l2:=(padR (s.tags.length+1) s.rows).getD s.tags.length []) rfl rfl rfl rfl (Nat.le_of_eq (Nat.zero_mul _)) (fun j hj=>absurd hj (by simp)) (src_rs rfl) rfl (fun j hj=>by first|exact cZ|(simp only [Nat.div_one];exact cZ)) Tryz.underlying81 nu81 sz22 zr22 by22 rfl (by simp only [List.length_nil,pad_get];omega) (by simp only [List.length_nil,pad_get];omega) (fun j hj=>rfl) rfl rfl (Nat.mul_one _) (fun p3=>?_))|refine jLm 0 7 (m_appendCX rowC_lb (l:=[]) (l2:=(padR (s.tags.length+1) s.rows).getD s.tags.length []) rfl rfl rfl rfl (Nat.le_of_eq (Nat.zero_mul _)) (fun j hj=>absurd hj (by simp)) (src_rs rfl) rfl (fun j hj=>by first|exact cZ|(simp only [Nat.div_one];exact cZ)) Tryz.underlying81 nu81 sz22 zr22 by22 rfl (by simp only [List.length_nil,pad_get];omega) (by simp only [List.length_nil,pad_get];omega) (fun j hj=>rfl) rfl rfl (Nat.mul_one _) (fun p3=>?_))
    first|refine jLm 0 1 (m_appendCX (rowC_lb) (l2:=[b]) rfl rfl rfl rfl (by omega) (fun _ _=>cZ) (src_os rfl (.inl rfl) (by decide)) rfl (fun j hj=>by rcases j with _|j <;> first|exact cZ|exact CEnt.int (by omega)|(exfalso;simp at hj <;> omega)) Tryz.underlying81 nu81 sz22 zr22 by22 rfl (by (simp;omega)) (by (simp;omega)) (leaf_flk rfl rfl) rfl rfl rfl (fun p4=>?_))|refine jLm 0 2 (m_appendCX (rowC_lb) (l2:=[b]) rfl rfl rfl rfl (by omega) (fun _ _=>cZ) (src_os rfl (.inl rfl) (by decide)) rfl (fun j hj=>by rcases j with _|j <;> first|exact cZ|exact CEnt.int (by omega)|(exfalso;simp at hj <;> omega)) Tryz.underlying81 nu81 sz22 zr22 by22 rfl (by (simp;omega)) (by (simp;omega)) (leaf_flk rfl rfl) rfl rfl rfl (fun p4=>?_))|refine jLm 0 3 (m_appendCX (rowC_lb) (l2:=[b]) rfl rfl rfl rfl (by first|exact Nat.le_refl _|omega) (fun _ _=>cZ) (src_os rfl (.inl rfl) (by decide)) rfl (fun j hj=>by rcases j with _|j <;> first|exact cZ|exact CEnt.int (by omega)|(exfalso;simp at hj <;> omega)) Tryz.underlying81 nu81 sz22 zr22 by22 rfl (by first|omega|(simp;done)|(simp;omega)|(simp at *;omega)) (by first|omega|(simp;done)|(simp;omega)|(simp at *;omega)) (leaf_flk rfl rfl) rfl rfl rfl (fun p4=>?_))|refine jLm 0 4 (m_appendCX (rowC_lb) (l2:=[b]) rfl rfl rfl rfl (by first|exact Nat.le_refl _|omega) (fun _ _=>cZ) (src_os rfl (.inl rfl) (by decide)) rfl (fun j hj=>by rcases j with _|j <;> first|exact cZ|exact CEnt.int (by omega)|(exfalso;simp at hj <;> omega)) Tryz.underlying81 nu81 sz22 zr22 by22 rfl (by first|omega|(simp;done)|(simp;omega)|(simp at *;omega)) (by first|omega|(simp;done)|(simp;omega)|(simp at *;omega)) (leaf_flk rfl rfl) rfl rfl rfl (fun p4=>?_))|refine jLm 0 5 (m_appendCX (rowC_lb) (l2:=[b]) rfl rfl rfl rfl (by first|exact Nat.le_refl _|omega) (fun _ _=>cZ) (src_os rfl (.inl rfl) (by decide)) rfl (fun j hj=>by rcases j with _|j <;> first|exact cZ|exact CEnt.int (by omega)|(exfalso;simp at hj <;> omega)) Tryz.underlying81 nu81 sz22 zr22 by22 rfl (by first|omega|(simp;done)|(simp;omega)|(simp at *;omega)) (by first|omega|(simp;done)|(simp;omega)|(simp at *;omega)) (leaf_flk rfl rfl) rfl rfl rfl (fun p4=>?_))|refine jLm 0 6 (m_appendCX (rowC_lb) (l2:=[b]) rfl rfl rfl rfl (by first|exact Nat.le_refl _|omega) (fun _ _=>cZ) (src_os rfl (.inl rfl) (by decide)) rfl (fun j hj=>by rcases j with _|j <;> first|exact cZ|exact CEnt.int (by omega)|(exfalso;simp at hj <;> omega)) Tryz.underlying81 nu81 sz22 zr22 by22 rfl (by first|omega|(simp;done)|(simp;omega)|(simp at *;omega)) (by first|omega|(simp;done)|(simp;omega)|(simp at *;omega)) (leaf_flk rfl rfl) rfl rfl rfl (fun p4=>?_))|refine jLm 0 7 (m_appendCX (rowC_lb) (l2:=[b]) rfl rfl rfl rfl (by first|exact Nat.le_refl _|omega) (fun _ _=>cZ) (src_os rfl (.inl rfl) (by decide)) rfl (fun j hj=>by rcases j with _|j <;> first|exact cZ|exact CEnt.int (by omega)|(exfalso;simp at hj <;> omega)) Tryz.underlying81 nu81 sz22 zr22 by22 rfl (by first|omega|(simp;done)|(simp;omega)|(simp at *;omega)) (by first|omega|(simp;done)|(simp;omega)|(simp at *;omega)) (leaf_flk rfl rfl) rfl rfl rfl (fun p4=>?_))
    refine jLq jri ?_
    first
     |(refine zl_ent (freeze 2 rfl) ?_;refine zl_ent (thaw 46 (fun a _=>bsC (((padR (s.tags.length+1) s.rows).getD s.tags.length []++[b]).getD a [])) rfl rfl (by simp) (fun a c ha hc=>by obtain rfl:c=0:=(by omega);rw [Nat.zero_add,Nat.mul_one,Nat.add_zero];exact cZ)) ?_)
     |(refine zl_ent (freeze 3 rfl) ?_;refine zl_ent (thaw 46 (fun a _=>bsC (((padR (s.tags.length+1) s.rows).getD s.tags.length []++[b]).getD a [])) rfl rfl (by simp) (fun a c ha hc=>by obtain rfl:c=0:=(by omega);rw [Nat.zero_add,Nat.mul_one,Nat.add_zero];exact cZ)) ?_)
    refine jLm 0 1 (jmstFX 1 (rowsF ((padR (s.tags.length+1) s.rows).set s.tags.length ((padR (s.tags.length+1) s.rows).getD s.tags.length []++[b]))) ?_ ?_)
    ·exact (fun j hj=>rows_set cZ hj)
    refine jLd ?_
    exact end_closeRW (.inr rfl) n (raddS b s) 1 (res_0 rfl) cZ rfl rfl rfl (by exact cZ) (by exact CEnt.osI (by simp [raddS])) (by exact cZ) (by simp [raddS]) (fun _ _=>by exact cZ)
  ·refine jLe 0 (jebl 1 1 zr22 fun p1=>?_)
   refine jLe 0 (jebl 0 1 zr22 fun p2=>?_)
   first|refine jLm 0 1 (m_appendCX rowC_lb (l:=[]) (l2:=(padR (s.tags.length+1) s.rows).getD s.tags.length []) rfl rfl rfl rfl (Nat.le_of_eq (Nat.zero_mul _)) (fun j hj=>absurd hj (by simp)) (src_rs rfl) rfl (fun j hj=>by (simp only [Nat.div_one];exact cZ)) Tryz.underlying81 nu81 sz22 zr22 by22 rfl (by simp only [List.length_nil,pad_get];omega) (by simp only [List.length_nil,pad_get];omega) (fun j hj=>rfl) rfl rfl (Nat.mul_one _) (fun p3=>?_))|refine jLm 0 2 (m_appendCX rowC_lb (l:=[]) (l2:=(padR (s.tags.length+1) s.rows).getD s.tags.length []) rfl rfl rfl rfl (Nat.le_of_eq (Nat.zero_mul _)) (fun j hj=>absurd hj (by simp)) (src_rs rfl) rfl (fun j hj=>by (simp only [Nat.div_one];exact cZ)) Tryz.underlying81 nu81 sz22 zr22 by22 rfl (by simp only [List.length_nil,pad_get];omega) (by simp only [List.length_nil,pad_get];omega) (fun j hj=>rfl) rfl rfl (Nat.mul_one _) (fun p3=>?_))|refine jLm 0 3 (m_appendCX rowC_lb (l:=[]) (l2:=(padR (s.tags.length+1) s.rows).getD s.tags.length []) rfl rfl rfl rfl (Nat.le_of_eq (Nat.zero_mul _)) (fun j hj=>absurd hj (by simp)) (src_rs rfl) rfl (fun j hj=>by (simp only [Nat.div_one];exact cZ)) Tryz.underlying81 nu81 sz22 zr22 by22 rfl (by simp only [List.length_nil,pad_get];omega) (by simp only [List.length_nil,pad_get];omega) (fun j hj=>rfl) rfl rfl (Nat.mul_one _) (fun p3=>?_))|refine jLm 0 4 (m_appendCX rowC_lb (l:=[]) (l2:=(padR (s.tags.length+1) s.rows).getD s.tags.length []) rfl rfl rfl rfl (Nat.le_of_eq (Nat.zero_mul _)) (fun j hj=>absurd hj (by simp)) (src_rs rfl) rfl (fun j hj=>by first|exact cZ|(simp only [Nat.div_one];exact cZ)) Tryz.underlying81 nu81 sz22 zr22 by22 rfl (by simp only [List.length_nil,pad_get];omega) (by simp only [List.length_nil,pad_get];omega) (fun j hj=>rfl) rfl rfl (Nat.mul_one _) (fun p3=>?_))|refine jLm 0 5 (m_appendCX rowC_lb (l:=[]) (l2:=(padR (s.tags.length+1) s.rows).getD s.tags.length []) rfl rfl rfl rfl (Nat.le_of_eq (Nat.zero_mul _)) (fun j hj=>absurd hj (by simp)) (src_rs rfl) rfl (fun j hj=>by first|exact cZ|(simp only [Nat.div_one];exact cZ)) Tryz.underlying81 nu81 sz22 zr22 by22 rfl (by simp only [List.length_nil,pad_get];omega) (by simp only [List.length_nil,pad_get];omega) (fun j hj=>rfl) rfl rfl (Nat.mul_one _) (fun p3=>?_))|refine jLm 0 6 (m_appendCX rowC_lb (l:=[]) (l2:=(padR (s.tags.length+1) s.rows).getD s.tags.length []) rfl rfl rfl rfl (Nat.le_of_eq (Nat.zero_mul _)) (fun j hj=>absurd hj (by simp)) (src_rs rfl) rfl (fun j hj=>by first|exact cZ|(simp only [Nat.div_one];exact cZ)) Tryz.underlying81 nu81 sz22 zr22 by22 rfl (by simp only [List.length_nil,pad_get];omega) (by simp only [List.length_nil,pad_get];omega) (fun j hj=>rfl) rfl rfl (Nat.mul_one _) (fun p3=>?_))|refine jLm 0 7 (m_appendCX rowC_lb (l:=[]) (l2:=(padR (s.tags.length+1) s.rows).getD s.tags.length []) rfl rfl rfl rfl (Nat.le_of_eq (Nat.zero_mul _)) (fun j hj=>absurd hj (by simp)) (src_rs rfl) rfl (fun j hj=>by first|exact cZ|(simp only [Nat.div_one];exact cZ)) Tryz.underlying81 nu81 sz22 zr22 by22 rfl (by simp only [List.length_nil,pad_get];omega) (by simp only [List.length_nil,pad_get];omega) (fun j hj=>rfl) rfl rfl (Nat.mul_one _) (fun p3=>?_))
   first|refine jLm 0 1 (m_appendCX (rowC_lb) (l2:=[b]) rfl rfl rfl rfl (by omega) (fun _ _=>cZ) (src_os rfl (.inl rfl) (by decide)) rfl (fun j hj=>by rcases j with _|j <;> first|exact cZ|exact CEnt.int (by omega)|(exfalso;simp at hj <;> omega)) Tryz.underlying81 nu81 sz22 zr22 by22 rfl (by (simp;omega)) (by (simp;omega)) (leaf_flk rfl rfl) rfl rfl rfl (fun p4=>?_))|refine jLm 0 2 (m_appendCX (rowC_lb) (l2:=[b]) rfl rfl rfl rfl (by omega) (fun _ _=>cZ) (src_os rfl (.inl rfl) (by decide)) rfl (fun j hj=>by rcases j with _|j <;> first|exact cZ|exact CEnt.int (by omega)|(exfalso;simp at hj <;> omega)) Tryz.underlying81 nu81 sz22 zr22 by22 rfl (by (simp;omega)) (by (simp;omega)) (leaf_flk rfl rfl) rfl rfl rfl (fun p4=>?_))|refine jLm 0 3 (m_appendCX (rowC_lb) (l2:=[b]) rfl rfl rfl rfl (by omega) (fun _ _=>cZ) (src_os rfl (.inl rfl) (by decide)) rfl (fun j hj=>by rcases j with _|j <;> first|exact cZ|exact CEnt.int (by omega)|(exfalso;simp at hj <;> omega)) Tryz.underlying81 nu81 sz22 zr22 by22 rfl (by (simp;omega)) (by (simp;omega)) (leaf_flk rfl rfl) rfl rfl rfl (fun p4=>?_))|refine jLm 0 4 (m_appendCX (rowC_lb) (l2:=[b]) rfl rfl rfl rfl (by first|exact Nat.le_refl _|omega) (fun _ _=>cZ) (src_os rfl (.inl rfl) (by decide)) rfl (fun j hj=>by rcases j with _|j <;> first|exact cZ|exact CEnt.int (by omega)|(exfalso;simp at hj <;> omega)) Tryz.underlying81 nu81 sz22 zr22 by22 rfl (by first|omega|(simp;done)|(simp;omega)|(simp at *;omega)) (by first|omega|(simp;done)|(simp;omega)|(simp at *;omega)) (leaf_flk rfl rfl) rfl rfl rfl (fun p4=>?_))|refine jLm 0 5 (m_appendCX (rowC_lb) (l2:=[b]) rfl rfl rfl rfl (by first|exact Nat.le_refl _|omega) (fun _ _=>cZ) (src_os rfl (.inl rfl) (by decide)) rfl (fun j hj=>by rcases j with _|j <;> first|exact cZ|exact CEnt.int (by omega)|(exfalso;simp at hj <;> omega)) Tryz.underlying81 nu81 sz22 zr22 by22 rfl (by first|omega|(simp;done)|(simp;omega)|(simp at *;omega)) (by first|omega|(simp;done)|(simp;omega)|(simp at *;omega)) (leaf_flk rfl rfl) rfl rfl rfl (fun p4=>?_))|refine jLm 0 6 (m_appendCX (rowC_lb) (l2:=[b]) rfl rfl rfl rfl (by first|exact Nat.le_refl _|omega) (fun _ _=>cZ) (src_os rfl (.inl rfl) (by decide)) rfl (fun j hj=>by rcases j with _|j <;> first|exact cZ|exact CEnt.int (by omega)|(exfalso;simp at hj <;> omega)) Tryz.underlying81 nu81 sz22 zr22 by22 rfl (by first|omega|(simp;done)|(simp;omega)|(simp at *;omega)) (by first|omega|(simp;done)|(simp;omega)|(simp at *;omega)) (leaf_flk rfl rfl) rfl rfl rfl (fun p4=>?_))|refine jLm 0 7 (m_appendCX (rowC_lb) (l2:=[b]) rfl rfl rfl rfl (by first|exact Nat.le_refl _|omega) (fun _ _=>cZ) (src_os rfl (.inl rfl) (by decide)) rfl (fun j hj=>by rcases j with _|j <;> first|exact cZ|exact CEnt.int (by omega)|(exfalso;simp at hj <;> omega)) Tryz.underlying81 nu81 sz22 zr22 by22 rfl (by first|omega|(simp;done)|(simp;omega)|(simp at *;omega)) (by first|omega|(simp;done)|(simp;omega)|(simp at *;omega)) (leaf_flk rfl rfl) rfl rfl rfl (fun p4=>?_))
   refine jLq jri ?_
   first
    |(refine zl_ent (freeze 2 rfl) ?_;refine zl_ent (thaw 46 (fun a _=>bsC (((padR (s.tags.length+1) s.rows).getD s.tags.length []++[b]).getD a [])) rfl rfl (by simp) (fun a c ha hc=>by obtain rfl:c=0:=(by omega);rw [Nat.zero_add,Nat.mul_one,Nat.add_zero];exact cZ)) ?_)
    |(refine zl_ent (freeze 3 rfl) ?_;refine zl_ent (thaw 46 (fun a _=>bsC (((padR (s.tags.length+1) s.rows).getD s.tags.length []++[b]).getD a [])) rfl rfl (by simp) (fun a c ha hc=>by obtain rfl:c=0:=(by omega);rw [Nat.zero_add,Nat.mul_one,Nat.add_zero];exact cZ)) ?_)
   refine jLm 0 1 (jmstFX 1 (rowsF ((padR (s.tags.length+1) s.rows).set s.tags.length ((padR (s.tags.length+1) s.rows).getD s.tags.length []++[b]))) ?_ ?_)
   ·exact (fun j hj=>rows_set cZ hj)
   refine jLd ?_
   exact end_closeRW (.inr rfl) n (raddS b s) 1 (res_0 rfl) cZ rfl rfl rfl (by exact cZ) (by exact CEnt.osI (by simp [raddS])) (by exact cZ) (by simp [raddS]) (fun _ _=>by exact cZ)
end
section
variable {gs:List Nat} [Ok9 gs]
open Go.RowKit

structure OkW (s:W8):Prop where
 n:s.fr.length≤16
 k:∀ x ∈ s.fr,x.2.length≤1000000∧sumL x.2≤1000000
 d:s.d.length≤1000000
theorem fr_len {zs:List FrG} {fr:List (Int×List (List UInt8))} (h:zs.map Prod.fst=fr):zs.length=fr.length:=by rw [← h];simp
theorem top_at {x:FrG} {zr:List FrG} {m j:Nat} (hj:j<2) (hm:m=zr.length+1):rowF 2 frF frD (x::zr).reverse (0+(m-1) * 2+j)=frF x j:=by
 rw [Nat.zero_add,rowF_at hj,hm]
 simp [List.getD_eq_getElem?_getD]
theorem row_low {x:FrG} {zr:List FrG} {j:Nat} (hj:j<zr.length * 2):rowF 2 frF frD (x::zr).reverse j=rowF 2 frF frD zr.reverse j:=by
 simp only [rowF,List.reverse_cons,List.getD_eq_getElem?_getD]
 rw [List.getElem?_append_left (by simp;omega)]
theorem top_store {x x':FrG} {zr:List FrG} {m q n j:Nat} {g:Option Nat} (hm:m=zr.length+1) (hx:x'.1.1=x.1.1) (hg:x'.2=g) (hn:x'.1.2.length=n) (hj:j<m * 2):CEnt (updF (rowF 2 frF frD (x::zr).reverse) (0+(m-1) * 2+1) [.os q g 0 n 1] j) (rowF 2 frF frD (x'::zr).reverse j):=by
 rw [updF_get]
 by_cases h1:j<zr.length * 2
 ·rw [if_neg (by simp;omega),row_low h1,row_low h1]
  exact cZ
 ·by_cases h2:j=0+(m-1) * 2+1
  ·rw [if_pos (by simp;omega),h2,top_at (by omega) hm,Nat.sub_self]
   show CEnt (.os q g 0 n 1) (.os 0 x'.2 0 x'.1.2.length 1)
   rw [hg,hn]
   exact CEnt.osI rfl
  ·obtain rfl:j=0+(m-1) * 2+0:=by omega
   rw [if_neg (by simp;omega),top_at (by omega) hm,top_at (by omega) hm]
   show CEnt (.c (.int .i64 x.1.1)) (.c (.int .i64 x'.1.1))
   rw [hx]
   exact cZ
theorem failW_ac {gs:List Nat} (n:Nat) (s:W8) (e:Nat):AC gs Tryz.prog 58 [wrO n s] [.op 0 (some n) 0,.err e] (fun r H'=>r=.c (.tuple #[])∧H'=[wrO n (failW e s)]):=by
 refine ac_of 13 Tryz.func58 rfl rfl rfl (fun al w0 F0 St0=>?_)
 refine code_openW 0 rfl fun go gd zs hzs=>?_;refine jcr ?_;refine jq jrm ?_;refine jq jrnc ?_;refine jq (jrfa 2 1 false) ?_;refine jqo jrdo ?_;refine jq jre ?_;refine jN ?_;refine jcc (fun h38=>?_) fun h38=>?_
 rotate_left
 ·refine jS ?_
  have hF:failW e s=s:=by unfold failW;rw [if_neg (by omega)]
  rw [hF]
  exact end_pack (gd:=fun z:WZ8 s.fr=>z.1.1) (E:=wrE s) (.inr rfl) _ ⟨(n,go,gd,zs),hzs⟩ [0,1,2,3] (by decide) rfl (res_0 rfl) ⟨rfl,rfl⟩
 refine jcg ?_;refine jq jrm ?_;refine jq jrm ?_;refine jq jrnc ?_;refine jq (jrfa 2 1 false) ?_
 refine jqm (jmstF 1 (wrB ⟨s.fr,s.d,e⟩ 1 2 go gd) ?_ ?_)
 ·exact (fun j hj=>by rcases j with _|_|_|j <;> exact cZ)
 refine jN ?_
 have hF:failW e s=⟨s.fr,s.d,e⟩:=by unfold failW;rw [if_pos (by omega)]
 rw [hF]
 exact end_pack (gd:=fun z:WZ8 s.fr=>z.1.1) (E:=wrE ⟨s.fr,s.d,e⟩) (.inr rfl) _ ⟨(n,go,gd,zs),hzs⟩ [0,1,2,3] (by decide) rfl (res_0 rfl) ⟨rfl,rfl⟩
set_option maxHeartbeats 1000000 in
theorem addW_ac {gs:List Nat} (n:Nat) (s:W8) (b:List UInt8) (hs:OkW s) (hb:b.length≤100000000):AC gs Tryz.prog 99 [wrO n s] [.op 0 (some n) 0,bsC b] (fun r H'=>r=.c (.tuple #[])∧H'=[wrO n (addW b s)]):=by
 have hsd:=hs.d
 have hsn:=hs.n
 refine ac_of 42 Tryz.func99 rfl rfl rfl (fun al w0 F0 St0=>?_)
 refine jcs ?_
 (refine code_openW 0 rfl fun go gd zs hzs=>?_;have hzl:=fr_len hzs)
 refine jcr ?_;refine jq jrm ?_;refine jq jrnc ?_;refine jq (jrfa 0 1 false) ?_;refine jqo jrdo ?_;refine jq jrl ?_;refine jq jrm ?_;refine jN ?_
 skip
 refine jcr ?_;refine jq jrm ?_;refine jq jrc ?_;refine jN ?_;refine jcc (fun h45=>?_) fun h45=>?_
 rotate_left
 ·refine jS (jtn ?_)
  have hf0:s.fr=[]:=List.eq_nil_of_length_eq_zero (by omega)
  refine jcg ?_;refine jq jrm ?_;refine jq jrm ?_;refine jq jrnc ?_;refine jq (jrfa 1 1 false) ?_;refine jqo jrdo ?_;refine jq jrm ?_
  first|refine jqm (m_appendB rfl rfl rfl (Nat.le_refl _) (fun _ _=>cZ) (src_rs rfl) rfl (fun j hj=>by simp only [Nat.div_one];exact cZ) Tryz.underlying22 nu22 sz5 zr5 by5 rfl (by omega) (fun j hj=>rfl) rfl rfl (fun p1=>?_))|refine jqm (m_appendB rfl rfl rfl (Nat.le_refl _) (fun _ _=>cZ) (src_str rfl) rfl (fun j hj=>cZ) Tryz.underlying22 nu22 sz5 zr5 by5 rfl (by first|omega|(simp;done)|(simp;omega)|(simp at *;omega)) (fun j hj=>rfl) rfl rfl (fun p1=>?_))|refine jqm (m_appendB rfl rfl rfl (Nat.le_refl _) (fun _ _=>cZ) (src_os rfl (.inl rfl) (by omega)) rfl (fun j hj=>by rw [Nat.zero_add];exact cZ) Tryz.underlying22 nu22 sz5 zr5 by5 rfl (by first|omega|(simp;done)|(simp;omega)|(simp at *;omega)) (fun j hj=>rfl) rfl rfl (fun p1=>?_))
  refine jq jrnc ?_;refine jq (jrfa 1 1 false) ?_
  refine jqm (jmstF 1 (wrB (addW b s) 1 2 go p1) ?_ ?_)
  ·exact (fun j hj=>by rcases j with _|_|_|j <;> first|exact CEnt.osI (by simp [addW,hf0])|exact CEnt.osI (by simp [addW,hf0])|exact CEnt.err (by simp [addW,hf0])|omega)
  refine jN ?_
  refine end_hr (H':=?H2) ?hh ?hb
  case hh=>intro _ _ _ _ _ hx;exact closeWh n (addW b s) zs 0 1 2 3 (by simp [addW,hf0];rw [hf0] at hzs;simpa using hzs) rfl rfl rfl rfl (by decide) (by exact CEnt.osI rfl) (by exact CEnt.osI rfl) (by exact cZ) (by simp [addW,hf0]) (fun a ha=>by simp [addW,hf0] at ha) (by simp [addW,hf0]) (fun _ _=>by simp only [addW,hf0];exact cZ) hx
  case hb=>exact end_own (.inr rfl) _ [wrO n (addW b s)] [0] (by decide) rfl (res_0 rfl) ⟨rfl,rfl⟩
 refine jcs ?_
 obtain ⟨x,zr,rfl⟩:∃ x zr,zs=x::zr:=by
   cases zs with
   | nil=>simp at hzl;omega
   | cons x zr=>exact ⟨x,zr,rfl⟩
 have hfr:s.fr=x.1::zr.map Prod.fst:=by rw [← hzs];rfl
 have hxk:=hs.k x.1 (by rw [hfr];exact List.mem_cons_self)
 have hzl:s.fr.length=zr.length+1:=by rw [← hzl];rfl
 refine jE (bag_pop 3 rfl) ?_;refine jcdZ (.rd 0 (.rd 1 (.rd 2 (.rd 4 (.rd 5 (.rd 6 (.rd 7 (.rd 8 (.rd 9 (.rd 10 (.rd 11 (.rd 12 (.rd 13 (.rd 14 (.rd 15 (.two 3 (.one 16 (.one 17 (.one 18 (.rd 19 (.rd 20 (.one 21 .done)))))) 16 (.two 3 (.one 17 (.one 18 (.rd 19 (.rd 20 (.one 21 .done))))) 17 (.two 3 (.one 18 (.rd 19 (.rd 20 (.one 21 .done)))) 18 (.one 3 (.rd 19 (.rd 20 (.one 21 .done)))))))))))))))))))))) ?_;refine jzq jrm ?_;refine jzq jrnc ?_;refine jzq (jrfa 0 1 false) ?_;refine jzq jrm ?_;refine jzq jra ?_;refine jzq jrm ?_;refine jzq jrnc ?_;refine jzq (jrfa 0 1 false) ?_;refine jzo jrdo ?_;refine jzq jrm ?_;refine jzq jra ?_;refine jzq (jri (i:=(s.fr.length-1)) (hz:=by omega)) ?_;refine jzq (jrfa 1 1 false) ?_;refine jzo (jrdo (hv:=top_at (by omega) hzl)) ?_;refine jzq jrm ?_;refine jztwo ?_ ?_
 ·refine jz1o jrdo ?_;refine z_ent (weaken 26 (.os 4 x.2 0 x.1.2.length 1) (CEnt.osI rfl)) ?_
  refine jze (jecP (clone8_ac b (by omega)) ?_)
  refine jze (jebl 1 1 zr22 fun p1=>?_)
  refine jzm (m_appendC (rowC_lb) (l2:=[b]) rfl rfl rfl rfl (by omega) (fun _ _=>cZ) (src_os rfl (.inl rfl) (by decide)) rfl (fun j hj=>by rcases j with _|j <;> first|exact cZ|exact CEnt.int (by omega)|(exfalso;simp at hj <;> omega)) Tryz.underlying81 nu81 sz22 zr22 by22 rfl (by (simp;omega)) (by (simp;omega)) (leaf_flk rfl rfl) rfl rfl rfl (fun p2=>?_))
  refine jzq (jri (i:=(s.fr.length-1)) (hz:=by omega)) ?_;refine jzq (jrfa 1 1 false) ?_
  refine jzm (jmstF 1 (rowF 2 frF frD (((x.1.1,x.1.2++[b]),p2)::zr).reverse) ?_ ?_)
  ·exact (fun j hj=>top_store hzl rfl rfl (by simp) hj)
  refine jzd ?_;refine jtn ?_;refine jE (weakH 4 (x.1.2++[b]).length (lbF (x.1.2++[b])) rfl (by simp) (fun _ _=>cZ)) ?_;refine jE (bag_push 3 4 rfl rfl rfl) ?_;refine jE (closeW n (addW b s) (((x.1.1,x.1.2++[b]),p2)::zr) 0 1 2 3 (by simp [addW,hfr]) rfl rfl rfl rfl (by decide) (CEnt.osI (by simp [addW,hfr])) (CEnt.osI (by simp [addW,hfr])) (CEnt.err (by simp [addW,hfr])) (by simp [addW,hfr]) (fun _ _=>cZ) (by simp [addW,hfr]) (fun _ _=>by simp only [addW,hfr];exact cZ)) ?_
  refine jR (jtr ?_)
  exact end_own (.inl rfl) _ [wrO n (addW b s)] [0] (by decide) rfl (res_0 rfl) ⟨rfl,rfl⟩
 ·refine z_ent (weaken 26 (.os 4 x.2 0 x.1.2.length 1) (CEnt.osI rfl)) ?_
  refine jze (jecP (clone8_ac b (by omega)) ?_)
  refine jztwo ?_ ?_
  ·refine jz1o jrdo ?_
   refine jze (jebl 1 1 zr22 fun p1=>?_)
   refine jzm (m_appendC (rowC_lb) (l2:=[b]) rfl rfl rfl rfl (by omega) (fun _ _=>cZ) (src_os rfl (.inl rfl) (by decide)) rfl (fun j hj=>by rcases j with _|j <;> first|exact cZ|exact CEnt.int (by omega)|(exfalso;simp at hj <;> omega)) Tryz.underlying81 nu81 sz22 zr22 by22 rfl (by (simp;omega)) (by (simp;omega)) (leaf_flk rfl rfl) rfl rfl rfl (fun p2=>?_))
   refine jzq (jri (i:=(s.fr.length-1)) (hz:=by omega)) ?_;refine jzq (jrfa 1 1 false) ?_
   refine jzm (jmstF 1 (rowF 2 frF frD (((x.1.1,x.1.2++[b]),p2)::zr).reverse) ?_ ?_)
   ·exact (fun j hj=>top_store hzl rfl rfl (by simp) hj)
   refine jzd ?_;refine jtn ?_;refine jE (weakH 4 (x.1.2++[b]).length (lbF (x.1.2++[b])) rfl (by simp) (fun _ _=>cZ)) ?_;refine jE (bag_push 3 4 rfl rfl rfl) ?_;refine jE (closeW n (addW b s) (((x.1.1,x.1.2++[b]),p2)::zr) 0 1 2 3 (by simp [addW,hfr]) rfl rfl rfl rfl (by decide) (CEnt.osI (by simp [addW,hfr])) (CEnt.osI (by simp [addW,hfr])) (CEnt.err (by simp [addW,hfr])) (by simp [addW,hfr]) (fun _ _=>cZ) (by simp [addW,hfr]) (fun _ _=>by simp only [addW,hfr];exact cZ)) ?_
   refine jR (jtr ?_)
   exact end_own (.inl rfl) _ [wrO n (addW b s)] [0] (by decide) rfl (res_0 rfl) ⟨rfl,rfl⟩
  ·refine jze (jebl 1 1 zr22 fun p1=>?_)
   refine jztwo ?_ ?_
   ·refine jz1o jrdo ?_
    refine jzm (m_appendC (rowC_lb) (l2:=[b]) rfl rfl rfl rfl (by omega) (fun _ _=>cZ) (src_os rfl (.inl rfl) (by decide)) rfl (fun j hj=>by rcases j with _|j <;> first|exact cZ|exact CEnt.int (by omega)|(exfalso;simp at hj <;> omega)) Tryz.underlying81 nu81 sz22 zr22 by22 rfl (by (simp;omega)) (by (simp;omega)) (leaf_flk rfl rfl) rfl rfl rfl (fun p2=>?_))
    refine jzq (jri (i:=(s.fr.length-1)) (hz:=by omega)) ?_;refine jzq (jrfa 1 1 false) ?_
    refine jzm (jmstF 1 (rowF 2 frF frD (((x.1.1,x.1.2++[b]),p2)::zr).reverse) ?_ ?_)
    ·exact (fun j hj=>top_store hzl rfl rfl (by simp) hj)
    refine jzd ?_;refine jtn ?_;refine jE (weakH 4 (x.1.2++[b]).length (lbF (x.1.2++[b])) rfl (by simp) (fun _ _=>cZ)) ?_;refine jE (bag_push 3 4 rfl rfl rfl) ?_;refine jE (closeW n (addW b s) (((x.1.1,x.1.2++[b]),p2)::zr) 0 1 2 3 (by simp [addW,hfr]) rfl rfl rfl rfl (by decide) (CEnt.osI (by simp [addW,hfr])) (CEnt.osI (by simp [addW,hfr])) (CEnt.err (by simp [addW,hfr])) (by simp [addW,hfr]) (fun _ _=>cZ) (by simp [addW,hfr]) (fun _ _=>by simp only [addW,hfr];exact cZ)) ?_
    refine jR (jtr ?_)
    exact end_own (.inl rfl) _ [wrO n (addW b s)] [0] (by decide) rfl (res_0 rfl) ⟨rfl,rfl⟩
   ·refine jzm (m_appendC (rowC_lb) (l2:=[b]) rfl rfl rfl rfl (by omega) (fun _ _=>cZ) (src_os rfl (.inl rfl) (by decide)) rfl (fun j hj=>by rcases j with _|j <;> first|exact cZ|exact CEnt.int (by omega)|(exfalso;simp at hj <;> omega)) Tryz.underlying81 nu81 sz22 zr22 by22 rfl (by (simp;omega)) (by (simp;omega)) (leaf_flk rfl rfl) rfl rfl rfl (fun p2=>?_))
    refine jz1o jrdo ?_;refine jzq (jri (i:=(s.fr.length-1)) (hz:=by omega)) ?_;refine jzq (jrfa 1 1 false) ?_
    refine jzm (jmstF 1 (rowF 2 frF frD (((x.1.1,x.1.2++[b]),p2)::zr).reverse) ?_ ?_)
    ·exact (fun j hj=>top_store hzl rfl rfl (by simp) hj)
    refine jzd ?_;refine jtn ?_;refine jE (weakH 4 (x.1.2++[b]).length (lbF (x.1.2++[b])) rfl (by simp) (fun _ _=>cZ)) ?_;refine jE (bag_push 3 4 rfl rfl rfl) ?_;refine jE (closeW n (addW b s) (((x.1.1,x.1.2++[b]),p2)::zr) 0 1 2 3 (by simp [addW,hfr]) rfl rfl rfl rfl (by decide) (CEnt.osI (by simp [addW,hfr])) (CEnt.osI (by simp [addW,hfr])) (CEnt.err (by simp [addW,hfr])) (by simp [addW,hfr]) (fun _ _=>cZ) (by simp [addW,hfr]) (fun _ _=>by simp only [addW,hfr];exact cZ)) ?_
    refine jR (jtr ?_)
    exact end_own (.inl rfl) _ [wrO n (addW b s)] [0] (by decide) rfl (res_0 rfl) ⟨rfl,rfl⟩
theorem addW_k (b:List UInt8) (s:W8):(addW b s).k=s.k:=by unfold addW;split <;> rfl
theorem putE_bd (tag:Int) (body:List UInt8):putE tag body≤28:=by
 unfold putE
 repeat' split
 all_goals omega
theorem putW_ac (n:Nat) (s:W8) (tag:Int) (body:List UInt8) (e:Nat) (hs:OkW s) (hb:body.length≤1000000):AC gs Tryz.prog 63 [wrO n s] [.op 0 (some n) 0,.c (.int .i64 tag),bsC body,.err e] (fun r H'=>r=.c (.tuple #[])∧H'=[wrO n (putW tag body e s)]):=by
 have hpl:(putL tag body).length≤100000000:=by
  unfold putL
  have:=lenL_bd body.length
  simp only [List.length_cons,List.length_append]
  omega
 refine ac_of 32 Tryz.func63 rfl rfl rfl (fun al w0 F0 St0=>?_)
 refine jcr ?_;refine jq jrm ?_;refine jq jrm ?_
 refine jqm (jmcH 0 (failW_ac n s e) ?_)
 rintro _ _ ⟨rfl,rfl⟩
 refine ⟨_,_,rfl,cZ,?_⟩
 refine jN ?_;refine jcs ?_;refine code_openW 0 rfl fun go gd zs hzs=>?_;refine jcr ?_;refine jq jrm ?_;refine jq jrnc ?_;refine jq (jrfa 2 1 false) ?_;refine jqo jrdo ?_;refine jq jre ?_;refine jN ?_;refine jcc (fun h55=>?_) fun h55=>?_
 ·refine jR (jtr ?_)
  have hP:putW tag body e s=failW e s:=by unfold putW;rw [if_pos (by omega)]
  rw [hP]
  exact end_pack (gd:=fun z:WZ8 (failW e s).fr=>z.1.1) (E:=wrE (failW e s)) (.inl rfl) _ ⟨(n,go,gd,zs),hzs⟩ [0,1,2,3] (by decide) rfl (res_0 rfl) ⟨rfl,rfl⟩
 refine jS (jtn ?_)
 have hk0:(failW e s).k=0:=by omega
 have hF:failW e s=s:=by
  obtain ⟨fr,d,k⟩:=s
  unfold failW at hk0 ⊢
  split
  ·rename_i h
   rw [if_pos h] at hk0
   have h:k=0:=h
   have hk0:e=0:=hk0
   rw [h,hk0]
  ·rfl
 refine jE (closeW n (failW e s) zs 0 1 2 3 hzs rfl rfl rfl rfl (by decide) (CEnt.osI rfl) (CEnt.osI rfl) cZ (Nat.le_refl _) (fun _ _=>cZ) (Nat.le_refl _) (fun _ _=>cZ)) ?_
 rw [hF]
 have hsk:s.k=0:=by rw [← hF];exact hk0
 dsimp only [List.set_cons_zero,List.set_cons_succ,List.cons_append,List.nil_append,List.length_cons,List.length_nil,Nat.zero_add,Nat.reduceAdd]
 refine jcr ?_;refine jq jrm ?_;refine jq jrm ?_;refine jq (rd_build (n:=2) rfl zr118 pl118 rfl rfl) ?_
 refine jqe (jecP (tput_ac tag body hb) ?_)
 refine jq jrm ?_;refine jq jrx ?_;refine jq jrx ?_;refine jq jrm ?_;refine jq jrm ?_;refine jN ?_;refine jcs ?_;refine jcr ?_;refine jq jrm ?_;refine jq jre ?_;refine jN ?_;refine jcc (fun h59=>?_) fun h59=>?_
 ·refine jcr ?_;refine jq jrm ?_;refine jq jrm ?_
  refine jqm (jmcH 0 (failW_ac n s (putE tag body)) ?_)
  rintro _ _ ⟨rfl,rfl⟩
  refine ⟨_,_,rfl,cZ,?_⟩
  refine jN ?_
  refine jR (jtr ?_)
  have hP:putW tag body e s=failW (putE tag body) s:=by unfold putW;rw [hF,if_neg (by omega),if_pos (by omega)];unfold failW;rw [if_pos hsk]
  rw [hP]
  exact end_own (.inl rfl) _ [_] [0] (by decide) rfl (res_0 rfl) ⟨rfl,rfl⟩
 refine jS (jtn ?_)
 have hP0:putE tag body=0:=by omega
 rw [if_pos hP0]
 refine jcg ?_;refine jq jrm ?_;refine jq jrm ?_
 refine jqm (jmcH 0 (addW_ac n s _ hs hpl) ?_)
 rintro _ _ ⟨rfl,rfl⟩
 refine ⟨_,_,rfl,cZ,?_⟩
 refine jN ?_
 have hP:putW tag body e s=addW (putL tag body) s:=by unfold putW;rw [hF,if_neg (by omega),if_neg (by omega)]
 rw [hP]
 exact end_own (.inr rfl) _ [_] [0] (by decide) rfl (res_0 rfl) ⟨rfl,rfl⟩
end
end Am
end Go.Proofs.YteolfpolmioalaaGreatDoor
namespace Go.Proofs
open Go.Shelf
def Tryz.sortB_ren:Go.Shelf.Ren:=⟨fun|6=>134|15=>157|14=>156|28=>177|29=>178|20=>169|21=>170|22=>171|23=>172|24=>173|25=>174|26=>175|27=>176|46=>190|47=>191|48=>192|49=>193|50=>194|57=>199|n=>n,fun|22=>81|24=>22|25=>182|3=>3|39=>154|0=>0|53=>208|55=>173|4=>4|46=>216|45=>215|50=>175|5=>5|9=>9|66=>234|70=>238|76=>243|77=>101|n=>n,fun|n=>n⟩
theorem Tryz.sortB:Go.Proofs.SlLaysF.n6 Tryz.prog Tryz.sortB_ren:={
 mixed:=by kernel_rfl
 f6:=⟨Tryz.f134.name,by decide,Tryz.func134.trans (congrArg some (by kernel_rfl))⟩
 f14:=⟨Tryz.f156.name,by decide,Tryz.func156.trans (congrArg some (by kernel_rfl))⟩
 f15:=Tryz.func157.trans (congrArg some (by kernel_rfl))
 f20:=⟨Tryz.f169.name,by decide,Tryz.func169.trans (congrArg some (by kernel_rfl))⟩
 f21:=⟨Tryz.f170.name,by decide,Tryz.func170.trans (congrArg some (by kernel_rfl))⟩
 f22:=⟨Tryz.f171.name,by decide,Tryz.func171.trans (congrArg some (by kernel_rfl))⟩
 f23:=⟨Tryz.f172.name,by decide,Tryz.func172.trans (congrArg some (by kernel_rfl))⟩
 f24:=⟨Tryz.f173.name,by decide,Tryz.func173.trans (congrArg some (by kernel_rfl))⟩
 f25:=⟨Tryz.f174.name,by decide,Tryz.func174.trans (congrArg some (by kernel_rfl))⟩
 f26:=⟨Tryz.f175.name,by decide,Tryz.func175.trans (congrArg some (by kernel_rfl))⟩
 f27:=⟨Tryz.f176.name,by decide,Tryz.func176.trans (congrArg some (by kernel_rfl))⟩
 f28:=Tryz.func177.trans (congrArg some (by kernel_rfl))
 f29:=Tryz.func178.trans (congrArg some (by kernel_rfl))
 f46:=⟨Tryz.f190.name,by decide,Tryz.func190.trans (congrArg some (by kernel_rfl))⟩
 f47:=Tryz.func191.trans (congrArg some (by kernel_rfl))
 f48:=Tryz.func192.trans (congrArg some (by kernel_rfl))
 f49:=⟨Tryz.f193.name,by decide,Tryz.func193.trans (congrArg some (by kernel_rfl))⟩
 f50:=⟨Tryz.f194.name,by decide,Tryz.func194.trans (congrArg some (by kernel_rfl))⟩
 f57:=⟨Tryz.f199.name,by decide,Tryz.func199.trans (congrArg some (by kernel_rfl))⟩
 t0:=Tryz.underlying0
 a0:=Tryz.isAgg0
 z0:=Tryz.sizeOf0
 v0:=Tryz.zeroValue0
 t3:=Tryz.underlying3
 a3:=Tryz.isAgg3
 z3:=Tryz.sizeOf3
 v3:=Tryz.zeroValue3
 t4:=Tryz.underlying4
 a4:=Tryz.isAgg4
 z4:=Tryz.sizeOf4
 v4:=Tryz.zeroValue4
 t5:=Tryz.underlying5
 a5:=Tryz.isAgg5
 z5:=Tryz.sizeOf5
 v5:=Tryz.zeroValue5
 t9:=Tryz.underlying9
 a9:=Tryz.isAgg9
 z9:=Tryz.sizeOf9
 v9:=Tryz.zeroValue9
 t22:=Tryz.underlying81
 a22:=Tryz.isAgg81
 z22:=Tryz.sizeOf81
 v22:=Tryz.zeroValue81
 a24:=Tryz.isAgg22
 z24:=Tryz.sizeOf22
 t25:=Tryz.underlying182
 a25:=Tryz.isAgg182
 z25:=Tryz.sizeOf182
 v25:=Tryz.zeroValue182
 t39:=Tryz.underlying154
 a39:=Tryz.isAgg154
 z39:=Tryz.sizeOf154
 v39:=Tryz.zeroValue154
 t45:=Tryz.underlying215
 a45:=Tryz.isAgg215
 z45:=Tryz.sizeOf215
 v45:=Tryz.zeroValue215
 t46:=Tryz.underlying216
 a46:=Tryz.isAgg216
 z46:=Tryz.sizeOf216
 v46:=Tryz.zeroValue216
 t50:=Tryz.underlying175
 a50:=Tryz.isAgg175
 z50:=Tryz.sizeOf175
 v50:=Tryz.zeroValue175
 t53:=Tryz.underlying208
 a53:=Tryz.isAgg208
 z53:=Tryz.sizeOf208
 v53:=Tryz.zeroValue208
 t55:=Tryz.underlying173
 a55:=Tryz.isAgg173
 z55:=Tryz.sizeOf173
 v55:=Tryz.zeroValue173
 t66:=Tryz.underlying234
 a66:=Tryz.isAgg234
 z66:=Tryz.sizeOf234
 v66:=Tryz.zeroValue234
 t70:=Tryz.underlying238
 a70:=Tryz.isAgg238
 z70:=Tryz.sizeOf238
 v70:=Tryz.zeroValue238
 t76:=Tryz.underlying243
 a76:=Tryz.isAgg243
 z76:=Tryz.sizeOf243
 v76:=Tryz.zeroValue243
 t77:=Tryz.underlying101
 a77:=Tryz.isAgg101
 z77:=Tryz.sizeOf101
 v77:=Tryz.zeroValue101 }
end Go.Proofs
namespace Go.Proofs.YteolfpolmioalaaGreatDoor
set_option linter.unusedVariables false
namespace Am
section
open Go.RowKit
theorem sort8_ac {gs:List Nat} (g:Option Nat) (ls:List (List UInt8)) (hl:ls.length≤1000000000):AC gs Tryz.prog 134 [(g,.blk ls.length (lbF ls))] [.os 0 g 0 ls.length 1,.c (.func (.func 135) #[] #[])] (fun r H'=>r=.c (.tuple #[])∧H'=[(g,.blk ls.length (lbF (sortL ls)))]) :=
 sort8_of (fun p cap fv w=>AnyF.slices_SortFunc_none (P:=Tryz.prog) (ρ:=Tryz.sortB_ren) { Tryz.sortB with } p cap fv w)
  (fun m enc h1 cf hO blk cap d w hc hH hb hs=>Any.slices_SortFunc (P:=Tryz.prog) (ρ:=Tryz.sortB_ren) Tryz.sortB enc h1 cf hO 135 #[] blk 0 cap d w (fun args W=>run_enter (by kernel_rfl) args W) hc hH hb hs)
  (fun w v1 v2 l r h1 h2=>compare8_run h1 h2) g ls hl
theorem sumL_sort (ls:List (List UInt8)):sumL (sortL ls)=sumL ls:=((sortL_perm ls).map List.length).sum_nat
theorem set_ac {gs:List Nat} (ls:List (List UInt8)) (hl:ls.length≤1000000) (hs:sumL ls≤10000000000):ACp gs Tryz.prog 102 [lbC ls] (bsC (sortL ls).flatten):=by
 have hsl:=sortL_length ls
 refine ac_of 10 Tryz.func102 rfl rfl rfl (fun al w0 F0 St0=>?_)
 refine jcr ?_;refine jq jrm ?_;refine jN ?_;refine jcr ?_;refine jq jrm ?_
 refine jqe (jecO (cloneL_ac ls hl) (fun p1=>?_))
 refine jq jrm ?_;refine jN ?_;refine jcr ?_;refine jq jrm ?_
 refine jqm (jmcH 0 (sort8_ac p1 ls (by omega)) ?_)
 rintro _ _ ⟨rfl,rfl⟩
 refine ⟨_,_,rfl,cZ,?_⟩
 refine jN ?_;refine jE (freeze 0 rfl) ?_;refine jE (thaw 3 (fun b _=>bsC ((sortL ls).getD b [])) rfl rfl (by omega) (fun a b ha hb=>lb_thaw a b (by omega) hb)) ?_;refine jE (weaken 3 (lbC (sortL ls)) (CEnt.rs hsl.symm fun i j _ _=>cZ)) ?_;refine jcr ?_;refine jq jrm ?_
 refine jqe (jecP (concat8_ac (sortL ls) (by rw [sumL_sort];exact hs) (by omega)) ?_)
 refine jq jrm ?_;refine jN ?_
 refine jR (jrt (hv:=cZ))
theorem gt_cmp (a b:List UInt8):(!(Op.bytesLess a b || a == b))=decide (0<cmpL a b):=by
 rw [← cmpL_lt]
 have hs:=cmpL_swap a b
 rcases Int.lt_trichotomy (cmpL a b) 0 with h|h|h
 ·simp [h];omega
 ·have:=cmpL_zero h
  subst this
  simp [h]
 ·have hne:¬ a=b:=fun e=>by subst e;rw [cmpL_self] at h;omega
  simp [hne,show ¬ cmpL a b<0 by omega,h]
theorem lb_take {X:List (List UInt8)} {k j:Nat} (h:j<k):bsC (X.getD (0+j / 1) [])=lbF (X.take k) j:=by
 unfold lbF
 simp [List.getD,List.getElem?_take,h]
theorem lb_drop {X:List (List UInt8)} {k j:Nat}:bsC (X.getD (k+j / 1) [])=lbF (X.drop k) j:=by
 unfold lbF
 simp [List.getD,List.getElem?_drop]
theorem insert_sorted {X l:List (List UInt8)} {x:List UInt8} {k:Nat} (hX:X=sortL l) (hk:k≤X.length) (hlo:k=0∨leL (X.getD (k-1) []) x=true) (hhi:∀ j,k≤j→j<X.length→leL x (X.getD j [])=true):X.take k++[x]++X.drop k=sortL (l++[x]):=by
 have hs:X.Pairwise fun a b=>leL a b=true:=hX ▸ sortL_sorted l
 have hp:X.Perm l:=hX ▸ sortL_perm l
 refine sortL_of ?_ ?_
 ·have h1:(X.take k++[x]++X.drop k).Perm (X.take k++X.drop k++[x]):=by
   rw [List.append_assoc,List.append_assoc]
   exact List.Perm.append_left _ List.perm_append_comm
  rw [List.take_append_drop] at h1
  exact h1.trans (hp.append_right [x])
 ·have hlow:∀ a ∈ X.take k,leL a x=true:=fun a ha=>by
   obtain ⟨i,hi,rfl⟩:=List.mem_iff_getElem.1 ha
   rw [List.length_take] at hi
   rw [List.getElem_take]
   rcases hlo with h0|h0
   ·omega
   ·by_cases e:i=k-1
    ·have:X.getD (k-1) []=X[i]'(by omega):=by subst e;simp [List.getD,show k-1<X.length by omega]
     rwa [this] at h0
    ·refine leL_trans _ _ _ ?_ h0
     have:=List.pairwise_iff_getElem.1 hs i (k-1) (by omega) (by omega) (by omega)
     rwa [show X.getD (k-1) []=X[k-1]'(by omega) by simp [List.getD,show k-1<X.length by omega]]
  have hhigh:∀ a ∈ X.drop k,leL x a=true:=fun a ha=>by
   obtain ⟨i,hi,rfl⟩:=List.mem_iff_getElem.1 ha
   rw [List.length_drop] at hi
   rw [List.getElem_drop]
   have:=hhi (k+i) (by omega) (by omega)
   rwa [show X.getD (k+i) []=X[k+i]'(by omega) by simp [List.getD,show k+i<X.length by omega]] at this
  rw [List.pairwise_append,List.pairwise_append]
  refine ⟨⟨hs.take,List.pairwise_cons.2 ⟨fun _ h=>by simp at h,.nil⟩,fun a ha b hb=>?_⟩,hs.drop,fun a ha b hb=>?_⟩
  ·rw [List.mem_singleton.1 hb];exact hlow a ha
  ·rcases List.mem_append.1 ha with ha|ha
   ·exact leL_trans _ _ _ (hlow a ha) (hhigh b hb)
   ·rw [List.mem_singleton.1 ha];exact hhigh b hb
set_option maxHeartbeats 1000000 in
theorem rsorted07_ac {gs:List Nat} (ls:List (List UInt8)) (hl:ls.length≤1000000):ACp gs Tryz.prog 53 [lbC ls] (lbC (sortL ls)):=by
 refine ac_of 48 Tryz.func53 rfl rfl rfl (fun al w0 F0 St0=>?_)
 refine jcr ?_;refine jq jrm ?_;refine jN ?_;refine jcr ?_
 refine jqe (jebl 0 1 zr22 fun p1=>?_)
 refine jq jrm ?_;refine jN ?_;refine jcs ?_;refine jcr ?_;refine jq jrm ?_;refine jq jrl ?_;refine jq jrm ?_;refine jN ?_;refine jB ?_;refine l_loop (α:=Nat×List (List UInt8)×Option Nat) [3,5,6,7,11,12,13,14,15,16,17,18,19,20,21,22,23,24,25,26,27,28,29,30,31,32,33,34,35,36,37,38,39,40,41,42,43,44,45,46] (fun (i,X,g)=>[(11,.c (.int .i64 (i:Nat))),(3,.os 0 g 0 X.length 1)]) (fun (i,X,g)=>[(g,.blk X.length (lbF X))]) (fun (i,X,g)=>i≤ls.length∧X=sortL (ls.take i)) (fun (i,X,g)=>ls.length-i) ((0,[],p1)) ?_ (fun _=>rfl) ?_ ?_ ?_
 ·exact ⟨Nat.zero_le _,by simp [sortL]⟩
 ·exact .cons cZ (.cons cZ .nil)
 ·exact .blk rfl (fun j hj=>absurd hj (Nat.not_lt_zero j)) .nil
 ·rintro ⟨i,X,g⟩ ⟨(hi:i≤ls.length),hX⟩
  have hXl:X.length=i:=by rw [hX,sortL_length,List.length_take];omega
  obtain ⟨x,hx⟩:∃ x,x=ls.getD i []:=⟨_,rfl⟩
  refine jcr ?_;refine jq jrc ?_;refine jN ?_;refine jcs ?_;refine jcc (fun h115=>?_) fun h115=>?_
  rotate_left
  ·refine jX (jte (jte (jbx (jtn ?_))))
   refine jcr ?_;refine jq jrm ?_;refine jq jrm ?_;refine jN ?_
   have hiL:i=ls.length:=by omega
   rw [hiL,List.take_length] at hX
   refine jE (freeze 0 rfl) ?_;refine jE (thaw 2 (fun b _=>bsC (X.getD b [])) rfl rfl (by omega) (fun a b ha hb=>lb_thaw a b ha hb)) ?_
   refine jR (jrt (hv:=?_))
   rw [← hX];exact cZ
  refine jS (jtn ?_)
  refine jcs ?_;refine jB ?_;refine jcr ?_;refine jq jri ?_;refine jq jrdr ?_;refine jq jrm ?_;refine jN ?_;refine jE (freeze 0 rfl) ?_;refine jE (thaw 3 (fun b _=>bsC (X.getD b [])) rfl rfl (by omega) (fun a b ha hb=>lb_thaw a b ha hb)) ?_;refine jE (pick_ent (H':=[]) [] (by decide) rfl) ?_;refine jcr ?_;refine jq jrm ?_;refine jq jrl ?_;refine jq jrm ?_;refine jN ?_;refine jcs ?_;refine jB ?_;refine jE (weaken 5 (bsC x) (CEnt.bs hx.symm)) ?_;refine l_loop (α:=Nat) [6,17,18,19,20,21,22,23,24,25,26,27,28,29,30,31] (fun k=>[(6,.c (.int .i64 (k:Nat)))]) (fun _=>[]) (fun k=>k≤X.length∧∀ j,k≤j→j<X.length→leL x (X.getD j [])=true) (fun k=>k) (X.length) ?_ (fun _=>rfl) ?_ ?_ ?_
  ·exact ⟨Nat.le_refl _,fun j h1 h2=>by omega⟩
  ·(repeat (first|exact EntE.nil|refine EntE.cons cZ ?_|refine EntE.cons (CEnt.int (by omega)) ?_))
  ·(repeat (first|exact HEnt.nil|refine HEnt.same ?_|refine HEnt.blk rfl (fun j hj=>by rcases j with _|_|_|_|_|_|_|_|j <;> first|exact cZ|exact CEnt.int (by omega)|omega) ?_))
  ·rintro k ⟨hk,hgt⟩
   refine jcs ?_;refine jcs ?_;refine jcd (.rd 0 (.rd 1 (.rd 2 (.rd 3 (.rd 4 (.rd 5 (.rd 6 (.rd 7 (.rd 8 (.rd 9 (.rd 10 (.rd 11 (.rd 12 .done))))))))))))) ?_;refine jyq jrm ?_;refine jyq jrc ?_;refine jyq jrm ?_;refine jysp 19 (fun g117=>?_) fun g117=>?_
   rotate_left
   ·refine jys ?_;refine jys ?_;refine jys ?_;refine jys ?_;refine jys ?_;refine jys ?_;refine jys ?_;refine jys ?_;refine jys ?_;refine jyq jrpF ?_;refine jyd ?_;refine jtn ?_;refine jcF ?_
    refine jX (jte (jte (jbx (jtn ?_))))
    have hlo:k=0∨leL (X.getD (k-1) []) x=true:=by
     first
      |(left;omega)
      |(right;have hh:=h117;rw [gt_cmp,decide_eq_false_iff_not] at hh;have:=cmpL_swap (X.getD (k-1) []) x;rw [leL_cmp];omega)
    refine jcr ?_
    refine jqe (jebl 0 1 zr22 fun p2=>?_)
    refine jq jrm ?_;refine jq jrm ?_;refine jq (jrsr (hl:=(bd_none _ _)) (hu:=(bd_some rfl (show _=((k:Nat):Int) by omega)))) ?_
    refine jqm (m_appendC rowC_lb (l:=[]) (l2:=X.take k) rfl rfl rfl rfl (Nat.le_of_eq (Nat.zero_mul _)) (fun j hj=>absurd hj (by simp)) (src_rs rfl) (by rw [List.length_take];omega) (fun j hj=>CEnt.of_eq (lb_take (by rw [List.length_take] at hj;omega))) Tryz.underlying81 nu81 sz22 zr22 by22 rfl (by simp;omega) (by simp;omega) (fun j hj=>rfl) rfl rfl (Nat.mul_one _) (fun p3=>?_))
    refine jq jrm ?_;refine jN ?_;refine jcr ?_;refine jq jrm ?_;refine jq jrm ?_
    refine jqe (jebl 1 1 zr22 fun p4=>?_)
    refine jqm (m_appendC rowC_lb (l:=[]++X.take k) (l2:=[x]) rfl rfl (by simp) rfl (by simp) (fun j hj=>cZ) (src_os rfl (.inl rfl) (by decide)) rfl (fun j hj=>by obtain rfl:j=0:=(by simp at hj;omega);exact cZ) Tryz.underlying81 nu81 sz22 zr22 by22 rfl (by simp;omega) (by simp;omega) (fun j hj=>by obtain rfl:j=0:=(by omega);rfl) rfl rfl (Nat.mul_one _) (fun p5=>?_))
    refine jq jrm ?_;refine jN ?_;refine jcg ?_;refine jq jrm ?_;refine jq jrm ?_;refine jq jrm ?_;refine jq (jrsr (hl:=(bd_some rfl (show _=((k:Nat):Int) by omega))) (hu:=(bd_none _ _))) ?_
    refine jqm (m_appendC rowC_lb (l:=[]++X.take k++[x]) (l2:=X.drop k) rfl rfl (by simp) rfl (by simp) (fun j hj=>cZ) (src_rs rfl) (by rw [List.length_drop]) (fun j hj=>CEnt.of_eq lb_drop) Tryz.underlying81 nu81 sz22 zr22 by22 rfl (by simp;omega) (by simp;omega) (fun j hj=>rfl) rfl rfl (Nat.mul_one _) (fun p6=>?_))
    refine jq jrm ?_;refine jN ?_
    refine jbn (jtn ?_)
    refine jcg ?_;refine jq jra ?_;refine jq jrm ?_;refine jN ?_;refine jtn ?_
    refine jlend ((i+1,X.take k++[x]++X.drop k,p6)) ?_ ?_ (h5:=?_) (h7:=?_)
    ·exact ⟨by omega,by
      have e:ls.take (i+1)=ls.take i++[x]:=by rw [hx,List.take_succ_eq_append_getElem (by omega)];simp [List.getD,show i<ls.length by omega]
      rw [e]
      exact insert_sorted hX hk hlo (fun j h1 h2=>hgt j h1 h2)⟩
    ·show ls.length-(i+1)<ls.length-i;omega
    ·exact .cons (CEnt.int (by omega)) (.cons cZ .nil)
    ·exact .same .nil
   refine jyq jrm ?_;refine jyq jrm ?_;refine jyq jra ?_;refine jyq (jri (i:=(k-1)) (hz:=by omega)) ?_;refine jyq jrdr ?_;refine jyq jrbs ?_;refine jyq jrm ?_;refine jyq jrbs ?_;refine jyq jrcs ?_;refine jyq jrpT ?_;refine jyd ?_;refine jtn ?_;refine jcc (fun h117=>?_) fun h117=>?_
   ·refine jS (jtn ?_)
    refine jB ?_;refine jcg ?_;refine jq jrm ?_;refine jq jra ?_;refine jq jrm ?_;refine jN ?_
    refine jbn (jtn ?_)
    refine jlend (k-1) ?_ ?_ (h5:=?_)
    ·exact ⟨by omega,fun j h1 h2=>by
      by_cases e:j=k-1
      ·subst e
       have:=h117
       rw [gt_cmp,decide_eq_true_eq] at this
       rw [leL_cmp];omega
      ·exact hgt j (by omega) h2⟩
    ·show k-1<k;omega
    ·exact .cons (CEnt.int (by omega)) .nil
   refine jX (jte (jte (jbx (jtn ?_))))
   have hlo:k=0∨leL (X.getD (k-1) []) x=true:=by
    first
     |(left;omega)
     |(right;have hh:=h117;rw [gt_cmp,decide_eq_false_iff_not] at hh;have:=cmpL_swap (X.getD (k-1) []) x;rw [leL_cmp];omega)
   refine jcr ?_
   refine jqe (jebl 0 1 zr22 fun p2=>?_)
   refine jq jrm ?_;refine jq jrm ?_;refine jq (jrsr (hl:=(bd_none _ _)) (hu:=(bd_some rfl (show _=((k:Nat):Int) by omega)))) ?_
   refine jqm (m_appendC rowC_lb (l:=[]) (l2:=X.take k) rfl rfl rfl rfl (Nat.le_of_eq (Nat.zero_mul _)) (fun j hj=>absurd hj (by simp)) (src_rs rfl) (by rw [List.length_take];omega) (fun j hj=>CEnt.of_eq (lb_take (by rw [List.length_take] at hj;omega))) Tryz.underlying81 nu81 sz22 zr22 by22 rfl (by simp;omega) (by simp;omega) (fun j hj=>rfl) rfl rfl (Nat.mul_one _) (fun p3=>?_))
   refine jq jrm ?_;refine jN ?_;refine jcr ?_;refine jq jrm ?_;refine jq jrm ?_
   refine jqe (jebl 1 1 zr22 fun p4=>?_)
   refine jqm (m_appendC rowC_lb (l:=[]++X.take k) (l2:=[x]) rfl rfl (by simp) rfl (by simp) (fun j hj=>cZ) (src_os rfl (.inl rfl) (by decide)) rfl (fun j hj=>by obtain rfl:j=0:=(by simp at hj;omega);exact cZ) Tryz.underlying81 nu81 sz22 zr22 by22 rfl (by simp;omega) (by simp;omega) (fun j hj=>by obtain rfl:j=0:=(by omega);rfl) rfl rfl (Nat.mul_one _) (fun p5=>?_))
   refine jq jrm ?_;refine jN ?_;refine jcg ?_;refine jq jrm ?_;refine jq jrm ?_;refine jq jrm ?_;refine jq (jrsr (hl:=(bd_some rfl (show _=((k:Nat):Int) by omega))) (hu:=(bd_none _ _))) ?_
   refine jqm (m_appendC rowC_lb (l:=[]++X.take k++[x]) (l2:=X.drop k) rfl rfl (by simp) rfl (by simp) (fun j hj=>cZ) (src_rs rfl) (by rw [List.length_drop]) (fun j hj=>CEnt.of_eq lb_drop) Tryz.underlying81 nu81 sz22 zr22 by22 rfl (by simp;omega) (by simp;omega) (fun j hj=>rfl) rfl rfl (Nat.mul_one _) (fun p6=>?_))
   refine jq jrm ?_;refine jN ?_
   refine jbn (jtn ?_)
   refine jcg ?_;refine jq jra ?_;refine jq jrm ?_;refine jN ?_;refine jtn ?_
   refine jlend ((i+1,X.take k++[x]++X.drop k,p6)) ?_ ?_ (h5:=?_) (h7:=?_)
   ·exact ⟨by omega,by
     have e:ls.take (i+1)=ls.take i++[x]:=by rw [hx,List.take_succ_eq_append_getElem (by omega)];simp [List.getD,show i<ls.length by omega]
     rw [e]
     exact insert_sorted hX hk hlo (fun j h1 h2=>hgt j h1 h2)⟩
   ·show ls.length-(i+1)<ls.length-i;omega
   ·exact .cons (CEnt.int (by omega)) (.cons cZ .nil)
   ·exact .same .nil
end
section
variable {gs:List Nat} [Ok9 gs]
open Go.RowKit

theorem nilO8:CEnt (.c (.slice none 0 0)) (.os 0 none 0 0 1):=fun al St w v h=>⟨rfl,h⟩
theorem know_os {G:Gh} {s:AS} (d:Nat) {i off n k:Nat} (hl:look s.env s.b d=.os i none off n k):∀ a w,Rel G s a w→n=0:=fun a w ⟨St,hr⟩=>by
 have:=evR hr (x:=.tmp d) hl
 exact this.1
theorem cloneO_ac {gs:List Nat} (l:List UInt8) (g:Option Nat) (hl:l.length≤100000000):AC gs Tryz.prog 66 [(g,.blk l.length (byF l))] [.os 0 g 0 l.length 1] (fun r H'=>r=bsC l∧H'=[(g,.blk l.length (byF l))]):=by
 refine ac_of 8 Tryz.func66 rfl rfl rfl (fun al w0 F0 St0=>?_)
 refine jcr ?_;refine jq jrm ?_;refine jN ?_;refine jcs ?_;refine jcr ?_;refine jq jrm ?_;refine jq (rd_eqSO rfl rfl rfl Tryz.underlying22) ?_;refine jN ?_;refine jcc (fun h357=>?_) fun h357=>?_
 ·obtain rfl:g=none:=by cases g <;> simp at h357 ⊢
  refine code_knowG (know_os 0 rfl) fun hn=>?_;refine jcr ?_;refine jq jrm ?_;refine jN ?_
  refine jR (jtr ?_)
  exact end_ownV (.inl rfl) [0] (by decide) rfl (res_1 rfl (arv_tmp rfl)) (CEnt.nilS' hn) ⟨rfl,rfl⟩
 refine jS (jtn ?_)
 refine jcr ?_
 refine jqe (jebl 0 1 zr5 fun p1=>?_)
 refine jq jrm ?_
 first|refine jqm (m_appendB (l:=[]) rfl rfl rfl (Nat.zero_le _) (fun j hj=>absurd hj (Nat.not_lt_zero j)) (src_rs rfl) rfl (fun j hj=>by simp only [Nat.div_one];exact cZ) Tryz.underlying22 nu22 sz5 zr5 by5 rfl (by first|omega|(simp;done)|(simp;omega)|(simp at *;omega)) (fun j hj=>rfl) rfl rfl (fun p2=>?_))|refine jqm (m_appendB (l:=[]) rfl rfl rfl (Nat.zero_le _) (fun j hj=>absurd hj (Nat.not_lt_zero j)) (src_str rfl) rfl (fun j hj=>cZ) Tryz.underlying22 nu22 sz5 zr5 by5 rfl (by first|omega|(simp;done)|(simp;omega)|(simp at *;omega)) (fun j hj=>rfl) rfl rfl (fun p2=>?_))|refine jqm (m_appendB (l:=[]) rfl rfl rfl (Nat.zero_le _) (fun j hj=>absurd hj (Nat.not_lt_zero j)) (src_os rfl (.inl rfl) (by omega)) rfl (fun j hj=>by rw [Nat.zero_add];exact cZ) Tryz.underlying22 nu22 sz5 zr5 by5 rfl (by (simp;omega)) (fun j hj=>rfl) rfl rfl (fun p2=>?_))
 refine jq jrm ?_;refine jN ?_;refine jE (freeze 1 rfl) ?_;refine jE (thawB 2 ([]++l) rfl rfl (by rfl) rfl) ?_;refine jR ?_
 exact end_ownV (.inl rfl) [0] (by decide) rfl (res_1 rfl (arv_tmp rfl)) (CEnt.bs (List.nil_append l)) ⟨rfl,rfl⟩
theorem body08_ac {gs:List Nat} (tag:Int) (ls:List (List UInt8)) (hl:ls.length≤1000000) (hs:sumL ls≤10000000000):ACp gs Tryz.prog 65 [.agg 2 (fl [.c (.int .i64 tag),lbC ls])] (bsC (bodyF (tag,ls))):=by
 refine ac_of 12 Tryz.func65 rfl rfl rfl (fun al w0 F0 St0=>?_)
 refine jcr ?_
 refine jqe (jebx 2 fun p1=>?_)
 refine jq jrm ?_;refine jN ?_;refine jcs ?_;refine jcr ?_;refine jq (jrfa 0 1 false) ?_;refine jqo jrdo ?_;refine jq jrc ?_;refine jN ?_;refine jcc (fun h23=>?_) fun h23=>?_
 ·refine jcr ?_;refine jq (jrfa 1 1 false) ?_;refine jqo jrdo ?_
  refine jqe (jecP (set_ac ls hl hs) ?_)
  refine jq jrm ?_;refine jN ?_
  refine jR (jtr (jrt (hv:=CEnt.bs (by unfold bodyF;rw [if_pos h23]))))
 refine jS (jtn ?_)
 refine jcr ?_;refine jq (jrfa 1 1 false) ?_;refine jqo jrdo ?_
 refine jqe (jecP (concat8_ac ls hs hl) ?_)
 refine jq jrm ?_;refine jN ?_
 refine jR (jrt (hv:=CEnt.bs (by unfold bodyF;rw [if_neg h23])))
theorem openW_ac (n:Nat) (s:W8) (tag:Int) (hs:OkW s):AC gs Tryz.prog 24 [wrO n s] [.op 0 (some n) 0,.c (.int .i64 tag)] (fun r H'=>r=.c (.tuple #[])∧H'=[wrO n (openW tag s)]):=by
 have hsn:=hs.n
 refine ac_of 40 Tryz.func24 rfl rfl rfl (fun al w0 F0 St0=>?_)
 refine jB ?_;refine code_openW 0 rfl fun go gd zs hzs=>?_
 have hzl:=fr_len hzs
 refine jcr ?_;refine jq jrm ?_;refine jq jrnc ?_;refine jq (jrfa 2 1 false) ?_;refine jqo jrdo ?_;refine jq jre ?_;refine jq jrm ?_;refine jN ?_;refine jcc (fun h69=>?_) fun h69=>?_
 ·refine jS (jbn ?_)
  have hP:openW tag s=s:=by unfold openW;rw [if_pos (by omega)]
  rw [hP]
  exact end_pack (gd:=fun z:WZ8 s.fr=>z.1.1) (E:=wrE s) (.inr rfl) _ ⟨(n,go,gd,zs),hzs⟩ [0,1,2,3] (by decide) rfl (res_0 rfl) ⟨rfl,rfl⟩
 refine jcr ?_;refine jq jrm ?_
 refine jqe (jecP (made_ac tag) ?_)
 refine jq jrn ?_;refine jq jrm ?_;refine jN ?_;refine jcc (fun h70=>?_) fun h70=>?_
 ·refine jcg ?_;refine jq jrm ?_;refine jq (jrde 4) ?_;refine jq jrnc ?_;refine jq (jrfa 2 1 false) ?_
  refine jqm (jmstF 1 (wrB ⟨s.fr,s.d,5⟩ 1 2 go gd) ?_ ?_)
  ·exact (fun j hj=>by rcases j with _|_|_|j <;> exact cZ)
  refine jN ?_;refine jbn ?_
  have hP:openW tag s=⟨s.fr,s.d,5⟩:=by unfold openW;rw [if_neg (by omega),if_pos (by simp [madeM] at h70 ⊢;omega)]
  rw [hP]
  exact end_pack (gd:=fun z:WZ8 s.fr=>z.1.1) (E:=wrE ⟨s.fr,s.d,5⟩) (.inr rfl) _ ⟨(n,go,gd,zs),hzs⟩ [0,1,2,3] (by decide) rfl (res_0 rfl) ⟨rfl,rfl⟩
 refine jcr ?_;refine jq jrm ?_;refine jq jrnc ?_;refine jq (jrfa 0 1 false) ?_;refine jqo jrdo ?_;refine jq jrl ?_;refine jq jrc ?_;refine jq jrm ?_;refine jN ?_;refine jcc (fun h72=>?_) fun h72=>?_
 ·refine jcg ?_;refine jq jrm ?_;refine jq (jrde 5) ?_;refine jq jrnc ?_;refine jq (jrfa 2 1 false) ?_
  refine jqm (jmstF 1 (wrB ⟨s.fr,s.d,6⟩ 1 2 go gd) ?_ ?_)
  ·exact (fun j hj=>by rcases j with _|_|_|j <;> exact cZ)
  refine jN ?_;refine jbn ?_
  have hP:openW tag s=⟨s.fr,s.d,6⟩:=by unfold openW;rw [if_neg (by omega),if_neg (by simp [madeM] at h70 ⊢;omega),if_pos (by omega)]
  rw [hP]
  exact end_pack (gd:=fun z:WZ8 s.fr=>z.1.1) (E:=wrE ⟨s.fr,s.d,6⟩) (.inr rfl) _ ⟨(n,go,gd,zs),hzs⟩ [0,1,2,3] (by decide) rfl (res_0 rfl) ⟨rfl,rfl⟩
 refine jE (ent_none (lbF [])) ?_;refine jE (bag_push 3 4 rfl rfl rfl) ?_
 dsimp only [List.set_cons_zero,List.set_cons_succ,List.cons_append,List.nil_append,List.length_cons,List.length_nil,Nat.zero_add,Nat.reduceAdd]
 refine jcg ?_;refine jq jrm ?_;refine jq jrm ?_;refine jq jrnc ?_;refine jq (jrfa 0 1 false) ?_;refine jqo jrdo ?_;refine jq jrm ?_;refine jq (rd_build (n:=2) rfl zr98 pl98 rfl rfl) ?_
 refine jqe (jebl 2 2 zr98 fun p1=>?_)
 refine seq_ent (weakH 5 2 (rowF 2 frF frD [((tag,[]),none)]) rfl (Nat.le_refl _) (fun j hj=>by rcases j with _|_|j <;> first|exact cZ|exact nilO8|omega)) ?_
 refine jqm (m_appendC (rowC_row 2 frF frD) (l:=zs.reverse) (l2:=[((tag,[]),none)]) rfl rfl (by simp [hzl]) rfl (by simp [hzl]) (fun _ _=>cZ) (src_os rfl (.inl rfl) (by decide)) rfl (fun j hj=>by rw [Nat.zero_add];exact cZ) Tryz.underlying53 nu53 sz98 zr98 by98 rfl (by simp;omega) (by simp;omega) (fun j hj=>by rcases j with _|_|j <;> first|rfl|omega) rfl rfl rfl (fun p2=>?_))
 refine jq jrnc ?_;refine jq (jrfa 0 1 false) ?_
 refine jqm (jmstF 1 (wrB ⟨(tag,[])::s.fr,s.d,s.k⟩ 1 2 p2 gd) ?_ ?_)
 ·exact (fun j hj=>by rcases j with _|_|_|j <;> first|exact CEnt.osI (by simp [hzl])|exact cZ|omega)
 refine jN ?_;refine jbn ?_
 have hP:openW tag s=⟨(tag,[])::s.fr,s.d,s.k⟩:=by unfold openW;rw [if_neg (by omega),if_neg (by simp [madeM] at h70 ⊢;omega),if_neg (by omega)]
 rw [hP]
 refine end_hr (H':=?H2) ?hh ?hb
 case hh=>intro _ _ _ _ _ hx;exact closeWh n ⟨(tag,[])::s.fr,s.d,s.k⟩ (((tag,[]),none)::zs) 0 1 2 3 (by simp [hzs]) rfl rfl rfl rfl (by decide) (by exact CEnt.osI rfl) (by exact CEnt.osI rfl) (by exact cZ) (by simp [hzl]) (fun a _=>by rw [List.reverse_cons];exact cZ) (Nat.le_refl _) (fun _ _=>cZ) hx
 case hb=>exact end_own (.inr rfl) _ [_] [0] (by decide) rfl (res_0 rfl) ⟨rfl,rfl⟩
theorem sum_perm {a b:List (List UInt8)} (h:a.Perm b):sumL a=sumL b:=by
 unfold sumL
 exact (h.map List.length).sum_nat
theorem bodyF_len (x:Int×List (List UInt8)):(bodyF x).length=sumL x.2:=by
 unfold bodyF
 split
 ·rw [flat_len];exact sum_perm (sortL_perm _)
 ·rw [flat_len]
theorem OkW.tail {x:Int×List (List UInt8)} {r:List (Int×List (List UInt8))} {s:W8} (h:OkW s) (hf:s.fr=x::r):OkW ⟨r,s.d,s.k⟩:=⟨by have:=h.n;rw [hf] at this;simp at this ⊢;omega,fun y hy=>h.k y (by rw [hf];exact List.mem_cons_of_mem _ hy),h.d⟩
theorem closeW_ac (n:Nat) (s:W8) (hs:OkW s):AC gs Tryz.prog 29 [wrO n s] [.op 0 (some n) 0] (fun r H'=>r=.c (.tuple #[])∧H'=[wrO n (closeV s)]):=by
 have hsn:=hs.n
 refine ac_of 45 Tryz.func29 rfl rfl rfl (fun al w0 F0 St0=>?_)
 refine code_openW 0 rfl fun go gd zs hzs=>?_
 have hzl:=fr_len hzs
 refine jcr ?_;refine jq jrm ?_;refine jq jrnc ?_;refine jq (jrfa 0 1 false) ?_;refine jqo jrdo ?_;refine jq jrl ?_;refine jq jra ?_;refine jq jrm ?_;refine jN ?_;refine jB ?_;refine jcr ?_;refine jq jrm ?_;refine jq jrnc ?_;refine jq (jrfa 2 1 false) ?_;refine jqo jrdo ?_;refine jq jre ?_;refine jq jrm ?_;refine jN ?_;refine jcc (fun h83=>?_) fun h83=>?_
 ·refine jS (jbn ?_)
  have hP:closeV s=s:=by unfold closeV;rw [if_pos (by omega)]
  rw [hP]
  exact end_pack (gd:=fun z:WZ8 s.fr=>z.1.1) (E:=wrE s) (.inr rfl) _ ⟨(n,go,gd,zs),hzs⟩ [0,1,2,3] (by decide) rfl (res_0 rfl) ⟨rfl,rfl⟩
 refine jcr ?_;refine jq jrm ?_;refine jq jrc ?_;refine jq jrm ?_;refine jN ?_;refine jcc (fun h84=>?_) fun h84=>?_
 ·refine jcg ?_;refine jq jrm ?_;refine jq (jrde 23) ?_;refine jq jrnc ?_;refine jq (jrfa 2 1 false) ?_
  refine jqm (jmstF 1 (wrB ⟨s.fr,s.d,24⟩ 1 2 go gd) ?_ ?_)
  ·exact (fun j hj=>by rcases j with _|_|_|j <;> exact cZ)
  refine jN ?_;refine jbn ?_
  have hf0:s.fr=[]:=List.eq_nil_of_length_eq_zero (by omega)
  have hP:closeV s=⟨s.fr,s.d,24⟩:=by unfold closeV;rw [if_neg (by omega),hf0]
  rw [hP]
  exact end_pack (gd:=fun z:WZ8 s.fr=>z.1.1) (E:=wrE ⟨s.fr,s.d,24⟩) (.inr rfl) _ ⟨(n,go,gd,zs),hzs⟩ [0,1,2,3] (by decide) rfl (res_0 rfl) ⟨rfl,rfl⟩
 obtain ⟨x,zr,rfl⟩:∃ x zr,zs=x::zr:=by
   cases zs with
   | nil=>simp at hzl;omega
   | cons x zr=>exact ⟨x,zr,rfl⟩
 have hfr:s.fr=x.1::zr.map Prod.fst:=by rw [← hzs];rfl
 have hxk:=hs.k x.1 (by rw [hfr];exact List.mem_cons_self)
 have hzl:s.fr.length=zr.length+1:=by rw [← hzl];rfl
 refine jE (bag_pop 3 rfl) ?_;refine jcr ?_;refine jq jrm ?_;refine jq jrnc ?_;refine jq (jrfa 0 1 false) ?_;refine jqo jrdo ?_;refine jq jrm ?_;refine jq (jri (i:=(s.fr.length-1)) (hz:=by omega)) ?_;refine jqo (jrdoA 2) ?_;refine seq_ent (freeze 4 rfl) ?_;refine seq_ent (thawA 16 4 (fun a _=>bsC (x.1.2.getD a [])) (.c (.int .i64 x.1.1)) rfl rfl (by show CEnt (rowF 2 frF frD (x::zr).reverse (0+(s.fr.length-1) * 2+0)) _;rw [top_at (by omega) hzl];exact cZ) (by show CEnt (rowF 2 frF frD (x::zr).reverse (0+(s.fr.length-1) * 2+1)) _;rw [top_at (by omega) hzl];exact cZ) (by simp) (fun a b ha hb=>by obtain rfl:b=0:=(by omega);rw [Nat.zero_add,Nat.mul_one,Nat.add_zero];exact cZ)) ?_
 refine jqe (jeal (n:=2) zr98 rfl fun p1=>?_)
 refine jqm (jmst 2 ?_)
 refine jN ?_;refine jcr ?_;refine jq jrm ?_;refine jq jrm ?_;refine jq jrnc ?_;refine jq (jrfa 0 1 false) ?_;refine jqo jrdo ?_;refine jq jrm ?_;refine jq jrso ?_;refine jq jrnc ?_;refine jq (jrfa 0 1 false) ?_;refine seq_ent (weakH 1 ((s.fr.length-1) * 2) (rowF 2 frF frD zr.reverse) rfl (by omega) (fun j hj=>by rw [row_low (by omega)];exact cZ)) ?_
 refine jqm (jmstF 1 (wrB ⟨zr.map Prod.fst,s.d,s.k⟩ 1 2 go gd) ?_ ?_)
 ·exact (fun j hj=>by rcases j with _|_|_|j <;> first|exact CEnt.osI (by simp;omega)|exact cZ|omega)
 refine jN ?_;refine jE (closeW n ⟨zr.map Prod.fst,s.d,s.k⟩ zr 0 1 2 3 rfl rfl rfl rfl rfl (by decide) (CEnt.osI rfl) (CEnt.osI rfl) cZ (by simp;omega) (fun _ _=>cZ) (Nat.le_refl _) (fun _ _=>cZ)) ?_
 dsimp only [List.set_cons_zero,List.set_cons_succ,List.cons_append,List.nil_append,List.length_cons,List.length_nil,Nat.zero_add,Nat.reduceAdd]
 refine jE (freeze 5 rfl) ?_;refine jE (thawP 3 (m:=2) rfl rfl (by decide)) ?_
 have hto:=hs.tail hfr
 refine jcdB 5 (.rd 0 (.rd 1 (.rd 2 (.rd 3 (.one 4 .done))))) ?_;refine jyq jrm ?_;refine jyq (jrfa 0 1 false) ?_;refine jyq jrdr ?_;refine jyq (jrdrA 2) ?_
 refine jye (jecP (body08_ac x.1.1 x.1.2 hxk.1 (by omega)) ?_)
 refine jyd ?_
 show ASeq _ _ _ _ _ _
 refine jqm (jmcH 0 (putW_ac n ⟨zr.map Prod.fst,s.d,s.k⟩ x.1.1 (bodyF x.1) 0 hto (by rw [bodyF_len];exact hxk.2)) ?_)
 rintro _ _ ⟨rfl,rfl⟩
 refine ⟨_,_,rfl,cZ,?_⟩
 refine jN ?_;refine jbn ?_
 have hP:closeV s=putW x.1.1 (bodyF x.1) 0 ⟨zr.map Prod.fst,s.d,s.k⟩:=by unfold closeV;rw [if_neg (by omega),hfr]
 rw [hP]
 exact end_own (.inr rfl) _ [_] [0] (by decide) rfl (res_0 rfl) ⟨rfl,rfl⟩
end
section
variable {gs:List Nat} [Ok2 gs]
open Go.RowKit

theorem wser_ac {gs:List Nat} (N:Nat) (hN:N≤9223372036854775807):ACp gs Tryz.prog 183 [.c (.int .i64 (N:Nat))] (strC (dec N)):=by
 have hdl:=dec_len 18 N (by omega)
 refine ac_of 28 Tryz.func183 rfl rfl rfl (fun al w0 F0 St0=>?_)
 refine jcr ?_;refine jq jrm ?_;refine jN ?_;refine jcs ?_;refine jcr ?_;refine jq jrm ?_;refine jq jrc ?_;refine jN ?_;refine jcc (fun h84=>?_) fun h84=>?_
 ·exfalso;omega
 refine jS (jtn ?_)
 refine jcr ?_;refine jq jrm ?_;refine jq jrr ?_;refine jq jra ?_;refine jq (jrv .i64 .u8) ?_
 refine jqe (jebl 1 1 zr5 fun p1=>?_)
 refine jq jrm ?_;refine jN ?_;refine jcs ?_;refine jcr ?_;refine jq jrm ?_;refine jq jrq ?_;refine jq jrm ?_;refine jN ?_;refine jB ?_;refine l_loop (α:=Nat×List UInt8×Option Nat) [0,3,13,14,15,16,17,18,19,20,21,22,23] (fun (m,o,g)=>[(0,.c (.int .i64 (m:Nat))),(3,.os 0 g 0 o.length 1)]) (fun (m,o,g)=>[(g,.blk o.length (byF o))]) (fun (m,o,g)=>m≤N∧dec N=(if m=0 then [] else dec m)++o.reverse) (fun (m,o,g)=>m) ((N / 10,[fig (N % 10)],p1)) ?_ (fun _=>rfl) ?_ ?_ ?_
 ·exact ⟨Nat.div_le_self _ _,dec_first N⟩
 ·exact .cons (CEnt.int (by omega)) (.cons cZ .nil)
 ·exact .blk rfl (fun j hj=>fl_by (l2:=[fig (N % 10)]) (.cons (CEnt.int (fig_int N).symm) .nil) j hj) .nil
 ·rintro ⟨m,o,g⟩ ⟨(hm:m≤N),hd⟩
  have ho:o.length≤19:=by have:=congrArg List.length hd;simp only [List.length_append,List.length_reverse] at this;omega
  refine jcs ?_;refine jcr ?_;refine jq jrm ?_;refine jq jrc ?_;refine jN ?_;refine jcc (fun h88=>?_) fun h88=>?_
  rotate_left
  ·refine jX (jte (jte (jbx (jtn ?_))))
   refine jcr ?_;refine jq jrm ?_
   refine jqm (jmcH 0 (reverse8_ac _ o (by omega)) ?_)
   rintro _ _ ⟨rfl,rfl⟩
   refine ⟨_,_,rfl,cZ,?_⟩
   refine jN ?_;refine jcr ?_;refine jq jrm ?_;refine jqo jrbo ?_;refine jq jrm ?_;refine jN ?_
   refine jR (jrt (hv:=?_))
   refine CEnt.strL ?_
   rw [hd,if_pos (by omega)]
   rfl
  refine jS (jtn ?_)
  refine jcs ?_;refine jB ?_;refine jcg ?_;refine jq jrm ?_;refine jq jrm ?_;refine jq jrr ?_;refine jq jra ?_;refine jq (jrv .i64 .u8) ?_
  refine jqe (jebl 1 1 zr5 fun p2=>?_)
  refine jqm (m_appendB (l2:=[fig (m % 10)]) rfl rfl rfl (Nat.le_refl _) (fun _ _=>cZ) (src_os rfl (.inl rfl) (by decide)) rfl (hh_bytes (.cons (CEnt.int ((fig_int m).symm)) .nil)) Tryz.underlying22 nu22 sz5 zr5 by5 rfl (by (simp;omega)) (leaf_fl rfl rfl) rfl rfl (fun p3=>?_))
  refine jq jrm ?_;refine jN ?_
  refine jbn (jtn ?_)
  refine jcg ?_;refine jq jrm ?_;refine jq jrq ?_;refine jq jrm ?_;refine jN ?_;refine jtn ?_
  refine jlend ((m / 10,o++[fig (m % 10)],p3)) ?_ ?_ (h5:=?_)
  ·exact ⟨by omega,by rw [hd];exact dec_step (by omega) o⟩
  ·show m / 10<m;omega
  ·exact .cons (CEnt.int (by omega)) (.cons cZ .nil)
theorem rser_ac {gs:List Nat} (N:Nat) (hN:N≤9223372036854775807):ACp gs Tryz.prog 139 [.c (.int .i64 (N:Nat))] (strC (dec N)):=by
 induction N using dec_ind with
 | h0 N h =>
  refine ac_of 20 Tryz.func139 rfl rfl rfl (fun al w0 F0 St0=>?_)
  refine jcr ?_;refine jq jrm ?_;refine jN ?_;refine jcs ?_;refine jcr ?_;refine jq jrm ?_;refine jq jrc ?_;refine jN ?_;refine jcc (fun h42=>?_) fun h42=>?_
  rotate_left
  ·exfalso;omega
  refine jcr ?_;refine jq jrm ?_;refine jq jra ?_;refine jq (jrv .i64 .u8) ?_
  refine jqe (jebl 1 1 zr5 fun p1=>?_)
  refine seq_ent (freeze 0 rfl) ?_;refine seq_ent (thawBL 8 ([fig N]) rfl rfl rfl rfl (.cons (CEnt.int ((by rw [fig_toNat _ h];omega))) .nil)) ?_;refine jq jrbs ?_;refine jq jrm ?_;refine jN ?_
  refine jR (jtr (jrt (hv:=?_)))
  refine CEnt.strL ?_
  exact (dec_small h).symm
 | h1 N h ih =>
  have hdl:=dec_len 18 N (by omega)
  have hdl2:=dec_len 18 (N / 10) (by omega)
  refine ac_of 20 Tryz.func139 rfl rfl rfl (fun al w0 F0 St0=>?_)
  refine jcr ?_;refine jq jrm ?_;refine jN ?_;refine jcs ?_;refine jcr ?_;refine jq jrm ?_;refine jq jrc ?_;refine jN ?_;refine jcc (fun h42=>?_) fun h42=>?_
  ·exfalso;omega
  refine jS (jtn ?_)
  refine jcs ?_;refine jcd (.rd 0 (.rd 1 (.rd 3 (.rd 4 (.rd 5 (.rd 6 (.two 2 (.one 7 (.rd 8 (.rd 9 (.rd 10 .done)))) 7 (.rd 8 (.one 2 (.rd 9 (.rd 10 .done))))))))))) ?_;refine jyq jrm ?_;refine jyq (rd_quo rfl rfl rfl (by (omega)) (by (omega)) (wrap_id (k:=.i64) (by show _∧_;(omega)))) ?_;refine jyq jrm ?_;refine jyq (rd_rem rfl rfl rfl (by (omega)) (by (omega))) ?_;refine jyq (jra (hS:=by show _∧_;(omega))) ?_;refine jyq (jrv .i64 .u8 (hS:=by show _∧_;(omega))) ?_;refine jytwo ?_ ?_
  ·refine jye (jecP (ih (by omega)) ?_ (ho:=rfl) (he:=(.cons (se rfl (CEnt.int (by omega))) .nil)))
   refine jye (jebl 1 1 zr5 fun p1=>?_)
   refine x_ent (freeze 0 rfl) ?_;refine x_ent (thawBL 17 ([fig (N % 10)]) rfl rfl rfl rfl (.cons (CEnt.int ((fig_int N).symm)) .nil)) ?_;refine jyq jrbs ?_;refine jyq (jras (hS:=by ((simp only [List.length_cons,List.length_nil];omega)))) ?_;refine jyq jrm ?_;refine jyd ?_;refine jtn ?_
   refine jR (jrt (hv:=?_))
   refine CEnt.strL ?_
   exact (dec_big h).symm
  ·refine jye (jebl 1 1 zr5 fun p1=>?_)
   refine x_ent (freeze 0 rfl) ?_;refine x_ent (thawBL 17 ([fig (N % 10)]) rfl rfl rfl rfl (.cons (CEnt.int ((fig_int N).symm)) .nil)) ?_;refine jyq jrbs ?_
   refine jye (jecP (ih (by omega)) ?_ (ho:=rfl) (he:=(.cons (se rfl (CEnt.int (by omega))) .nil)))
   refine jyq (jras (hS:=by ((simp only [List.length_cons,List.length_nil];omega)))) ?_;refine jyq jrm ?_;refine jyd ?_;refine jtn ?_
   refine jR (jrt (hv:=?_))
   refine CEnt.strL ?_
   exact (dec_big h).symm

theorem isFig_of (c:UInt8):isFig c=true↔48≤c.toNat∧c.toNat≤57:=by simp [isFig]
theorem isFig_yes {c:UInt8} (h1:48≤(c.toNat:Int)) (h2:(c.toNat:Int)≤57):isFig c=true:=(isFig_of c).2 ⟨by omega,by omega⟩
theorem isFig_no {c:UInt8} (h:(c.toNat:Int)<48∨57<(c.toNat:Int)):isFig c=false:=by
 cases e:isFig c with
 | false=>rfl
 | true=>have:=(isFig_of c).1 e;omega
theorem take_figs {l:List UInt8} {i:Nat} (hi:i<l.length) (h:(l.take i).all isFig=true) (hc:isFig (l.getD i 0)=true):(l.take (i+1)).all isFig=true:=by
 rw [take_snoc l i hi,List.all_append,h,List.all_cons,hc]
 rfl
theorem figM_bad {l:List UInt8} (h:l=[]∨(18:Int)<(l.length:Nat)∨((1:Int)<(l.length:Nat)∧((l.getD 0 0).toNat:Int)=48)∨l.all isFig=false):(figM l).1=0∧(figM l).2=4:=by
 unfold figM
 rw [if_pos (by
  rcases h with h|h|h|h
  ·exact .inl (by simp [h])
  ·exact .inr (.inl (by omega))
  ·exact .inr (.inr (.inl ⟨by omega,by omega⟩))
  ·exact .inr (.inr (.inr h)))]
 exact ⟨rfl,rfl⟩
theorem figM_good {l:List UInt8} (h0:l≠[]) (h1:¬ (18:Int)<(l.length:Nat)) (h2:¬ ((1:Int)<(l.length:Nat)∧((l.getD 0 0).toNat:Int)=48)) (h3:l.all isFig=true):(figM l).1=valD l∧(figM l).2=0:=by
 unfold figM
 rw [if_neg (by
  rintro (h|h|h|h)
  ·exact h0 (List.eq_nil_of_length_eq_zero h)
  ·exact h1 (by omega)
  ·exact h2 ⟨by omega,by omega⟩
  ·rw [h3] at h;cases h)]
 exact ⟨rfl,rfl⟩
theorem take_val {l:List UInt8} {i:Nat} (hi:i<l.length):valD (l.take (i+1))=10 * valD (l.take i)+((l.getD i 0).toNat-48):=by
 rw [take_snoc l i hi,valD_append]
theorem wfig_ac (l:List UInt8):ACp gs Tryz.prog 151 [strC l] (.tup 2 (fl [.c (.int .i64 ((figM l).1:Nat)),.err (figM l).2])):=by
 refine ac_of 48 Tryz.func151 rfl rfl rfl (fun al w0 F0 St0=>?_)
 refine jcr ?_;refine jq jrm ?_;refine jq jrm ?_;refine jN ?_;refine jcs ?_;refine jcr ?_;refine jq jrm ?_;refine jq jrcs ?_;refine jq jrm ?_;refine jqsp 9 (fun g97=>?_) fun g97=>?_
 ·refine jqs ?_;refine jqs ?_;refine jqs ?_;refine jq jrpT ?_;refine jq jrm ?_;refine jqs ?_;refine jqs ?_;refine jqs ?_;refine jqs ?_;refine jqs ?_;refine jqs ?_;refine jqs ?_;refine jqs ?_;refine jq jrpT ?_;refine jN ?_;refine jcT ?_;refine jcs ?_;refine jcd (.rd 0 (.rd 1 (.rd 2 .done))) ?_;refine jyq (jrde 3) ?_;refine jyq jrm ?_;refine jyq jrm ?_;refine jyd ?_;refine jtn ?_
  refine jR (jtr (jrt (hv:=?_)))
  have hb:=@figM_bad l (by (simp_all;done))
  exact CEnt.tup2 (CEnt.int (by rw [hb.1];rfl)) (CEnt.errN hb.2)
 refine jq jrm ?_;refine jq jrls ?_;refine jq jrc ?_;refine jq jrpF ?_;refine jq jrm ?_;refine jqsp 14 (fun g97_2=>?_) fun g97_2=>?_
 ·refine jqs ?_;refine jqs ?_;refine jqs ?_;refine jqs ?_;refine jqs ?_;refine jqs ?_;refine jqs ?_;refine jqs ?_;refine jq jrpT ?_;refine jN ?_;refine jcT ?_;refine jcs ?_;refine jcd (.rd 0 (.rd 1 (.rd 2 .done))) ?_;refine jyq (jrde 3) ?_;refine jyq jrm ?_;refine jyq jrm ?_;refine jyd ?_;refine jtn ?_
  refine jR (jtr (jrt (hv:=?_)))
  have hb:=@figM_bad l (by (simp_all;done))
  exact CEnt.tup2 (CEnt.int (by rw [hb.1];rfl)) (CEnt.errN hb.2)
 refine jq jrm ?_;refine jq jrls ?_;refine jq jrc ?_;refine jq jrm ?_;refine jqsp 18 (fun g97_3=>?_) fun g97_3=>?_
 rotate_left
 ·refine jqs ?_;refine jqs ?_;refine jqs ?_;refine jq jrpF ?_;refine jq jrpF ?_;refine jN ?_;refine jcF ?_
  refine jS (jtn ?_)
  refine jcr ?_;refine jq jrm ?_;refine jN ?_;refine jcs ?_;refine jcr ?_;refine jq jrm ?_;refine jq jrls ?_;refine jq jrm ?_;refine jN ?_;refine jB ?_;refine l_loop (α:=Nat) [2,3,4,5,6,27,28,29,30,31,32,33,34,35,36,37,38,39,40,41,42,43,44,45,46] (fun i=>[(4,.c (.int .i64 (valD (l.take i):Nat))),(27,.c (.int .i64 (i:Nat)))]) (fun _=>[]) (fun i=>i≤l.length∧(l.take i).all isFig=true) (fun i=>l.length-i) (0) ?_ (fun _=>rfl) ?_ ?_ ?_
  ·exact ⟨Nat.zero_le _,rfl⟩
  ·(repeat (first|exact EntE.nil|refine EntE.cons cZ ?_|refine EntE.cons (CEnt.int (by omega)) ?_))
  ·(repeat (first|exact HEnt.nil|refine HEnt.same ?_|refine HEnt.blk rfl (fun j hj=>by rcases j with _|_|_|_|_|_|_|_|j <;> first|exact cZ|exact CEnt.int (by omega)|omega) ?_))
  ·rintro i ⟨(hi:i≤l.length),hf⟩
   have hl18:l.length≤18:=by omega
   refine jcr ?_;refine jq jrc ?_;refine jN ?_;refine jcs ?_;refine jcc (fun h101=>?_) fun h101=>?_
   rotate_left
   ·refine jX (jte (jte (jbx (jtn ?_))))
    refine jcr ?_;refine jq jrm ?_;refine jq jrm ?_;refine jq jrm ?_;refine jN ?_
    refine jR (jrt (hv:=?_))
    have hi2:i=l.length:=by omega
    rw [hi2,List.take_length] at hf
    have hb:=figM_good (l:=l) (by (simp_all;done)) (by (simp_all;done)) (by grind) hf
    exact CEnt.tup2 (CEnt.int (by rw [hb.1,hi2,List.take_length])) (CEnt.errN hb.2)
   refine jS (jtn ?_)
   refine jcs ?_;refine jB ?_;refine jcr ?_;refine jq jrm ?_;refine jq jrm ?_;refine jN ?_
   have hv:=valD_lt17 hf (by rw [List.length_take];omega)
   refine jcr ?_;refine jq jrm ?_;refine jq jrm ?_;refine jq jrix ?_;refine jq jrm ?_;refine jN ?_;refine jcs ?_;refine jcr ?_;refine jq jrm ?_;refine jq jrc ?_;refine jq jrm ?_;refine jqsp 35 (fun g103=>?_) fun g103=>?_
   ·refine jqs ?_;refine jqs ?_;refine jq jrpT ?_;refine jN ?_;refine jcT ?_;refine jcs ?_;refine jcd (.rd 0 (.rd 1 (.rd 2 .done))) ?_;refine jyq (jrde 3) ?_;refine jyq jrm ?_;refine jyq jrm ?_;refine jyd ?_;refine jtn ?_
    refine jR (jtr (jbr (jtr (jtr (jbr (jtr (jrt (hv:=?_))))))))
    have hb:=@figM_bad l (.inr (.inr (.inr (all_of_bad (i:=i) (by omega) (by exact isFig_no (.inl (by omega)))))))
    exact CEnt.tup2 (CEnt.int (by rw [hb.1];rfl)) (CEnt.errN hb.2)
   refine jq jrm ?_;refine jq jrc ?_;refine jq jrpF ?_;refine jN ?_;refine jcc (fun h103=>?_) fun h103=>?_
   ·refine jcs ?_;refine jcd (.rd 0 (.rd 1 (.rd 2 .done))) ?_;refine jyq (jrde 3) ?_;refine jyq jrm ?_;refine jyq jrm ?_;refine jyd ?_;refine jtn ?_
    refine jR (jtr (jbr (jtr (jtr (jbr (jtr (jrt (hv:=?_))))))))
    have hb:=@figM_bad l (.inr (.inr (.inr (all_of_bad (i:=i) (by omega) (by exact isFig_no (.inr (by omega)))))))
    exact CEnt.tup2 (CEnt.int (by rw [hb.1];rfl)) (CEnt.errN hb.2)
   refine jS (jtn ?_)
   refine jcg ?_;refine jq jrm ?_;refine jq jra ?_;refine jq jrm ?_;refine jq jra ?_;refine jq (jrv .u8 .i64) ?_;refine jq jra ?_;refine jq jrm ?_;refine jN ?_
   refine jbn (jtn ?_)
   refine jcg ?_;refine jq jra ?_;refine jq jrm ?_;refine jN ?_;refine jtn ?_
   refine jlend (i+1) ?_ ?_ (h5:=?_)
   ·exact ⟨by omega,take_figs (by omega) hf (isFig_yes (by omega) (by omega))⟩
   ·show l.length-(i+1)<l.length-i;omega
   ·exact .cons (CEnt.int (by rw [take_val (by omega)];omega)) (.cons (CEnt.int (by omega)) .nil)
 refine jq jrm ?_;refine jq (jrix (i:=0)) ?_;refine jq jrc ?_;refine jq jrpT ?_;refine jq jrpF ?_;refine jN ?_;refine jcc (fun h97=>?_) fun h97=>?_
 ·refine jcs ?_;refine jcd (.rd 0 (.rd 1 (.rd 2 .done))) ?_;refine jyq (jrde 3) ?_;refine jyq jrm ?_;refine jyq jrm ?_;refine jyd ?_;refine jtn ?_
  refine jR (jtr (jrt (hv:=?_)))
  have hb:=@figM_bad l (by (simp_all;done))
  exact CEnt.tup2 (CEnt.int (by rw [hb.1];rfl)) (CEnt.errN hb.2)
 refine jS (jtn ?_)
 refine jcr ?_;refine jq jrm ?_;refine jN ?_;refine jcs ?_;refine jcr ?_;refine jq jrm ?_;refine jq jrls ?_;refine jq jrm ?_;refine jN ?_;refine jB ?_;refine l_loop (α:=Nat) [2,3,4,5,6,27,28,29,30,31,32,33,34,35,36,37,38,39,40,41,42,43,44,45,46] (fun i=>[(4,.c (.int .i64 (valD (l.take i):Nat))),(27,.c (.int .i64 (i:Nat)))]) (fun _=>[]) (fun i=>i≤l.length∧(l.take i).all isFig=true) (fun i=>l.length-i) (0) ?_ (fun _=>rfl) ?_ ?_ ?_
 ·exact ⟨Nat.zero_le _,rfl⟩
 ·(repeat (first|exact EntE.nil|refine EntE.cons cZ ?_|refine EntE.cons (CEnt.int (by omega)) ?_))
 ·(repeat (first|exact HEnt.nil|refine HEnt.same ?_|refine HEnt.blk rfl (fun j hj=>by rcases j with _|_|_|_|_|_|_|_|j <;> first|exact cZ|exact CEnt.int (by omega)|omega) ?_))
 ·rintro i ⟨(hi:i≤l.length),hf⟩
  have hl18:l.length≤18:=by omega
  refine jcr ?_;refine jq jrc ?_;refine jN ?_;refine jcs ?_;refine jcc (fun h101=>?_) fun h101=>?_
  rotate_left
  ·refine jX (jte (jte (jbx (jtn ?_))))
   refine jcr ?_;refine jq jrm ?_;refine jq jrm ?_;refine jq jrm ?_;refine jN ?_
   refine jR (jrt (hv:=?_))
   have hi2:i=l.length:=by omega
   rw [hi2,List.take_length] at hf
   have hb:=figM_good (l:=l) (by (simp_all;done)) (by (simp_all;done)) (by (simp_all;done)) hf
   exact CEnt.tup2 (CEnt.int (by rw [hb.1,hi2,List.take_length])) (CEnt.errN hb.2)
  refine jS (jtn ?_)
  refine jcs ?_;refine jB ?_;refine jcr ?_;refine jq jrm ?_;refine jq jrm ?_;refine jN ?_
  have hv:=valD_lt17 hf (by rw [List.length_take];omega)
  refine jcr ?_;refine jq jrm ?_;refine jq jrm ?_;refine jq jrix ?_;refine jq jrm ?_;refine jN ?_;refine jcs ?_;refine jcr ?_;refine jq jrm ?_;refine jq jrc ?_;refine jq jrm ?_;refine jqsp 35 (fun g103=>?_) fun g103=>?_
  ·refine jqs ?_;refine jqs ?_;refine jq jrpT ?_;refine jN ?_;refine jcT ?_;refine jcs ?_;refine jcd (.rd 0 (.rd 1 (.rd 2 .done))) ?_;refine jyq (jrde 3) ?_;refine jyq jrm ?_;refine jyq jrm ?_;refine jyd ?_;refine jtn ?_
   refine jR (jtr (jbr (jtr (jtr (jbr (jtr (jrt (hv:=?_))))))))
   have hb:=@figM_bad l (.inr (.inr (.inr (all_of_bad (i:=i) (by omega) (by exact isFig_no (.inl (by omega)))))))
   exact CEnt.tup2 (CEnt.int (by rw [hb.1];rfl)) (CEnt.errN hb.2)
  refine jq jrm ?_;refine jq jrc ?_;refine jq jrpF ?_;refine jN ?_;refine jcc (fun h103=>?_) fun h103=>?_
  ·refine jcs ?_;refine jcd (.rd 0 (.rd 1 (.rd 2 .done))) ?_;refine jyq (jrde 3) ?_;refine jyq jrm ?_;refine jyq jrm ?_;refine jyd ?_;refine jtn ?_
   refine jR (jtr (jbr (jtr (jtr (jbr (jtr (jrt (hv:=?_))))))))
   have hb:=@figM_bad l (.inr (.inr (.inr (all_of_bad (i:=i) (by omega) (by exact isFig_no (.inr (by omega)))))))
   exact CEnt.tup2 (CEnt.int (by rw [hb.1];rfl)) (CEnt.errN hb.2)
  refine jS (jtn ?_)
  refine jcg ?_;refine jq jrm ?_;refine jq jra ?_;refine jq jrm ?_;refine jq jra ?_;refine jq (jrv .u8 .i64) ?_;refine jq jra ?_;refine jq jrm ?_;refine jN ?_
  refine jbn (jtn ?_)
  refine jcg ?_;refine jq jra ?_;refine jq jrm ?_;refine jN ?_;refine jtn ?_
  refine jlend (i+1) ?_ ?_ (h5:=?_)
  ·exact ⟨by omega,take_figs (by omega) hf (isFig_yes (by omega) (by omega))⟩
  ·show l.length-(i+1)<l.length-i;omega
  ·exact .cons (CEnt.int (by rw [take_val (by omega)];omega)) (.cons (CEnt.int (by omega)) .nil)
def figR (l:List UInt8):Nat×Bool:=if (figM l).2=0 then ((figM l).1,true) else (0,false)
theorem figR_bad {l:List UInt8} (h:(l.length:Int)<1∨(18:Int)<(l.length:Nat)∨l.all isFig=false∨dec (valD l)≠l):figR l=(0,false):=by
 unfold figR
 rw [figM_ref,if_neg (show ¬ (1≤l.length∧l.length≤18∧l.all isFig=true∧dec (valD l)=l) from fun h2=>by
  rcases h with h|h|h|h
  ·omega
  ·omega
  ·rw [h] at h2;exact absurd h2.2.2.1 (by simp)
  ·exact h h2.2.2.2)]
 rfl
theorem figR_good {l:List UInt8} (h0:¬ (l.length:Int)<1) (h1:¬ (18:Int)<(l.length:Nat)) (h2:l.all isFig=true) (h3:dec (valD l)=l):figR l=(valD l,true):=by
 have e:figM l=(valD l,0):=by rw [figM_ref,if_pos ⟨by omega,by omega,h2,h3⟩]
 unfold figR
 rw [e]
 rfl
theorem rfig_ac {gs:List Nat} (l:List UInt8):ACp gs Tryz.prog 123 [strC l] (.tup 2 (fl [.c (.int .i64 ((figR l).1:Nat)),.c (.bool (figR l).2)])):=by
 refine ac_of 43 Tryz.func123 rfl rfl rfl (fun al w0 F0 St0=>?_)
 refine jcr ?_;refine jq jrm ?_;refine jq jrm ?_;refine jN ?_;refine jcs ?_;refine jcr ?_;refine jq jrm ?_;refine jq jrls ?_;refine jq jrc ?_;refine jq jrm ?_;refine jqsp 9 (fun g50=>?_) fun g50=>?_
 ·refine jqs ?_;refine jqs ?_;refine jqs ?_;refine jq jrpT ?_;refine jN ?_;refine jcT ?_;refine jcr ?_;refine jq jrm ?_;refine jq jrm ?_;refine jN ?_
  refine jR (jtr (jrt (hv:=?_)))
  have hb:=@figR_bad l (by omega)
  rw [hb]
  exact cZ
 refine jq jrm ?_;refine jq jrls ?_;refine jq jrc ?_;refine jq jrpF ?_;refine jN ?_;refine jcc (fun h50=>?_) fun h50=>?_
 ·refine jcr ?_;refine jq jrm ?_;refine jq jrm ?_;refine jN ?_
  refine jR (jtr (jrt (hv:=?_)))
  have hb:=@figR_bad l (by omega)
  rw [hb]
  exact cZ
 refine jS (jtn ?_)
 refine jcr ?_;refine jq jrm ?_;refine jN ?_;refine jcs ?_;refine jcr ?_;refine jq jrm ?_;refine jN ?_;refine jB ?_;refine l_loop (α:=Nat) [2,3,4,5,14,15,16,17,18,19,20,21,22,23,24,25,26,27,28,29,30,31,32,33,34,35,36,37] (fun i=>[(4,.c (.int .i64 (valD (l.take i):Nat))),(5,.c (.int .i64 (i:Nat)))]) (fun _=>[]) (fun i=>i≤l.length∧(l.take i).all isFig=true) (fun i=>l.length-i) (0) ?_ (fun _=>rfl) ?_ ?_ ?_
 ·exact ⟨Nat.zero_le _,rfl⟩
 ·(repeat (first|exact EntE.nil|refine EntE.cons cZ ?_|refine EntE.cons (CEnt.int (by omega)) ?_))
 ·(repeat (first|exact HEnt.nil|refine HEnt.same ?_|refine HEnt.blk rfl (fun j hj=>by rcases j with _|_|_|_|_|_|_|_|j <;> first|exact cZ|exact CEnt.int (by omega)|omega) ?_))
 ·rintro i ⟨(hi:i≤l.length),hf⟩
  have hl18:l.length≤18:=by omega
  refine jcs ?_;refine jcr ?_;refine jq jrm ?_;refine jq jrm ?_;refine jq jrls ?_;refine jq jrc ?_;refine jN ?_;refine jcc (fun h54=>?_) fun h54=>?_
  rotate_left
  ·refine jX (jte (jte (jbx (jtn ?_))))
   refine jcs ?_
   have hi2:i=l.length:=by omega
   rw [hi2,List.take_length] at hf
   have hv:=valD_lt18 hf (by omega)
   refine jcr ?_;refine jq jrm ?_
   refine jqe (jecP (rser_ac (valD l) (by omega)) ?_ (ho:=rfl) (he:=(.cons (se rfl (CEnt.int (by rw [hi2,List.take_length]))) .nil)))
   refine jq jrm ?_;refine jq jrcs ?_;refine jN ?_;refine jcc (fun h60=>?_) fun h60=>?_
   ·refine jcr ?_;refine jq jrm ?_;refine jq jrm ?_;refine jN ?_
    refine jR (jtr (jrt (hv:=?_)))
    have hb:=@figR_bad l (.inr (.inr (.inr (by exact h60))))
    rw [hb]
    exact cZ
   refine jS (jtn ?_)
   refine jcr ?_;refine jq jrm ?_;refine jq jrm ?_;refine jq jrm ?_;refine jN ?_
   refine jR (jrt (hv:=?_))
   have hb:=figR_good (l:=l) (by omega) (by omega) hf (by (simp_all;done))
   rw [hb,hi2,List.take_length]
   exact cZ
  refine jS (jtn ?_)
  refine jcs ?_;refine jB ?_;refine jcs ?_
  have hv:=valD_lt17 hf (by rw [List.length_take];omega)
  refine jcr ?_;refine jq jrm ?_;refine jq jrm ?_;refine jq jrix ?_;refine jq jrc ?_;refine jq jrm ?_;refine jqsp 24 (fun g55=>?_) fun g55=>?_
  ·refine jqs ?_;refine jqs ?_;refine jqs ?_;refine jqs ?_;refine jq jrpT ?_;refine jN ?_;refine jcT ?_;refine jcr ?_;refine jq jrm ?_;refine jq jrm ?_;refine jN ?_
   refine jR (jtr (jbr (jtr (jtr (jbr (jtr (jrt (hv:=?_))))))))
   have hb:=@figR_bad l (.inr (.inr (.inl (all_of_bad (i:=i) (by omega) (by exact isFig_no (.inl (by omega)))))))
   rw [hb]
   exact cZ
  refine jq jrm ?_;refine jq jrm ?_;refine jq jrix ?_;refine jq jrc ?_;refine jq jrpF ?_;refine jN ?_;refine jcc (fun h55=>?_) fun h55=>?_
  ·refine jcr ?_;refine jq jrm ?_;refine jq jrm ?_;refine jN ?_
   refine jR (jtr (jbr (jtr (jtr (jbr (jtr (jrt (hv:=?_))))))))
   have hb:=@figR_bad l (.inr (.inr (.inl (all_of_bad (i:=i) (by omega) (by exact isFig_no (.inr (by omega)))))))
   rw [hb]
   exact cZ
  refine jS (jtn ?_)
  refine jcg ?_;refine jq jrm ?_;refine jq jra ?_;refine jq jrm ?_;refine jq jrm ?_;refine jq jrix ?_;refine jq (jrv8 .i64) ?_;refine jq jra ?_;refine jq jra ?_;refine jq jrm ?_;refine jN ?_
  refine jbn (jtn ?_)
  refine jcg ?_;refine jq jrm ?_;refine jq jra ?_;refine jq jrm ?_;refine jN ?_;refine jtn ?_
  refine jlend (i+1) ?_ ?_ (h5:=?_)
  ·exact ⟨by omega,take_figs (by omega) hf (isFig_yes (by omega) (by omega))⟩
  ·show l.length-(i+1)<l.length-i;omega
  ·exact .cons (CEnt.int (by rw [take_val (by omega)];omega)) (.cons (CEnt.int (by omega)) .nil)
end
section
variable {gs:List Nat} [Ok2 gs]
open Go.RowKit

theorem i64idx_ac {gs:List Nat} {g:FuncId} {n:Nat} {fv:Nat→CV} (hc:calleeB Tryz.prog g=true) (l:List (Int)) (p:(Int)→Bool) (hp:∀ r,ACp gs Tryz.prog g ((fun z:Int=>.c (.int .i64 z)) r::(List.range n).map fv) (.c (.bool (p r)))) :
  ACp gs Tryz.prog 188 [isC l,.fn g n fv] (.c (.int .i64 (firstI p l))):=by
 refine ac_len 0 rfl fun hlen=>?_
 refine ac_of 19 Tryz.func188 rfl rfl rfl (fun al w0 F0 St0=>?_)
 refine jcr ?_;refine jq jrm ?_;refine jN ?_;refine jcs ?_;refine jcr ?_;refine jq jrm ?_;refine jq jrl ?_;refine jq jrm ?_;refine jN ?_;refine jB ?_;refine l_loop (α:=Nat) [4,5,8,9,10,11,12,13,14,15,16,17,18] (fun i=>[(8,.c (.int .i64 (i:Nat)))]) (fun _=>[]) (fun i=>i≤l.length∧∀ j (hj:j<l.length),j<i→p l[j]=false) (fun i=>l.length-i) (0) ?_ (fun _=>rfl) ?_ ?_ ?_
 ·exact ⟨by omega,fun j _ hj=>absurd hj (Nat.not_lt_zero j)⟩
 ·(repeat (first|exact EntE.nil|refine EntE.cons cZ ?_|refine EntE.cons (CEnt.int (by omega)) ?_))
 ·(repeat (first|exact HEnt.nil|refine HEnt.same ?_|refine HEnt.blk rfl (fun j hj=>by rcases j with _|_|_|_|_|_|_|_|j <;> first|exact cZ|exact CEnt.int (by omega)|omega) ?_))
 ·rintro i ⟨hi,he⟩
  refine jcr ?_;refine jq jrc ?_;refine jN ?_;refine jcs ?_;refine jcc (fun h108=>?_) fun h108=>?_
  rotate_left
  ·refine jX (jte (jte (jbx (jtn ?_))))
   refine jcr ?_;refine jq jrm ?_;refine jN ?_
   refine jR (jrt (hv:=?_))
   refine CEnt.int ?_
   exact (firstI_none fun j hj=>he j hj (by omega)).symm
  refine jS (jtn ?_)
  refine jcs ?_;refine jB ?_;refine jcr ?_;refine jq jrm ?_;refine jq jrm ?_;refine jN ?_;refine jcr ?_;refine jq jrm ?_;refine jq jrm ?_;refine jq jrm ?_;refine jq jri ?_;refine jq jrdr ?_
  refine jqe (e_callV rfl rfl (by assumption) (hp (l.getD i 0)) (entL_fn cZ _) rfl rfl ?_)
  rintro _ _ ⟨rfl,rfl⟩
  refine jN ?_;refine jcc (fun h109=>?_) fun h109=>?_
  ·refine jcr ?_;refine jq jrm ?_;refine jq jrm ?_;refine jN ?_
   refine jR (jbr (jtr (jtr (jbr (jtr (jrt (hv:=?_)))))))
   refine CEnt.int ?_
   have hlt:i<l.length:=by omega
   exact (firstI_at i hlt (by simpa [List.getD,hlt] using h109) (fun j hj=>he j (by omega) hj)).symm
  refine jS (jbn (jtn ?_))
  refine jcg ?_;refine jq jra ?_;refine jq jrm ?_;refine jN ?_;refine jtn ?_;refine jlend (i+1) ?_ ?_
  ·exact ⟨by omega,fun j hj hj1=>by
    by_cases e:j=i
    ·subst e
     simpa [List.getD,hj] using h109
    ·exact he j hj (by omega)⟩
  ·omega
theorem i64has_ac {gs:List Nat} {g:FuncId} {n:Nat} {fv:Nat→CV} (hc:calleeB Tryz.prog g=true) (l:List (Int)) (p:(Int)→Bool) (hp:∀ r,ACp gs Tryz.prog g ((fun z:Int=>.c (.int .i64 z)) r::(List.range n).map fv) (.c (.bool (p r)))) :
  ACp gs Tryz.prog 165 [isC l,.fn g n fv] (.c (.bool (l.any p))):=by
 refine ac_of 9 Tryz.func165 rfl rfl rfl (fun al w0 F0 St0=>?_)
 refine jcr ?_;refine jq jrm ?_;refine jN ?_;refine jcr ?_;refine jq jrm ?_;refine jq jrm ?_
 refine jqe (jecP (i64idx_ac hc l p hp) ?_)
 refine jq jrc ?_;refine jq jrm ?_;refine jN ?_
 refine jR (jrt (hv:=?_))
 refine CEnt.bool ?_
 exact firstI_any p l
def outA (n:Int):Bool:=decide (n<0) || decide (2147483647<n)
theorem out_ac {gs:List Nat} (n:Int):ACp gs Tryz.prog 166 (.c (.int .i64 n)::(List.range 0).map fun _=>.top) (.c (.bool (outA n))):=by
 refine ac_of 9 Tryz.func166 rfl rfl rfl (fun al w0 F0 St0=>?_)
 refine jcr ?_;refine jq jrm ?_;refine jN ?_;refine jcr ?_;refine jq jrm ?_;refine jq jrc ?_;refine jq jrm ?_;refine jqsp 5 (fun g25=>?_) fun g25=>?_
 ·refine jqs ?_;refine jqs ?_;refine jq jrpT ?_;refine jq jrm ?_;refine jN ?_
  refine jR (jrt (hv:=?_))
  refine CEnt.bool ?_
  unfold outA
  (simp_all;done)
 refine jq jrm ?_;refine jq jrc ?_;refine jq jrpF ?_;refine jq jrm ?_;refine jN ?_
 refine jR (jrt (hv:=?_))
 refine CEnt.bool ?_
 unfold outA
 (simp_all;omega)
theorem right_out (l:List Int):(!l.any outA)=l.all (fun n=>decide (0≤n) && decide (n≤2147483647)):=by
 rw [← all_not_any]
 congr 2
 funext n
 unfold outA
 by_cases h1:n<0 <;> by_cases h2:2147483647<n <;> simp [h1,h2] <;> omega
theorem oright_ac {gs:List Nat} (l:List Int):ACp gs Tryz.prog 152 [isC l] (.c (.bool (rightA l))):=by
 refine ac_len 0 rfl fun hlen=>?_
 refine ac_of 34 Tryz.func152 rfl rfl rfl (fun al w0 F0 St0=>?_)
 refine jcr ?_;refine jq jrm ?_;refine jN ?_;refine jcs ?_;refine jcr ?_;refine jq jrm ?_;refine jq jrl ?_;refine jq jrc ?_;refine jq jrm ?_;refine jqsp 7 (fun g22=>?_) fun g22=>?_
 ·refine jqs ?_;refine jqs ?_;refine jqs ?_;refine jq jrpT ?_;refine jN ?_;refine jcT ?_;refine jcr ?_;refine jq jrm ?_;refine jN ?_
  refine jR (jtr (jrt (hv:=?_)))
  refine CEnt.bool ?_
  unfold rightA
  rw [← right_out]
  (simp_all;omega)
 refine jq jrm ?_;refine jq jrl ?_;refine jq jrc ?_;refine jq jrpF ?_;refine jN ?_;refine jcc (fun h22=>?_) fun h22=>?_
 ·refine jcr ?_;refine jq jrm ?_;refine jN ?_
  refine jR (jtr (jrt (hv:=?_)))
  refine CEnt.bool ?_
  unfold rightA
  rw [← right_out]
  (simp_all;omega)
 refine jS (jtn ?_)
 refine jcr ?_;refine jq jrm ?_
 refine jqe (jecP (i64has_ac (n:=0) (fv:=fun _=>.top) (by kernel_rfl) l outA out_ac) ?_ (ho:=rfl) (he:=(.cons (se rfl cZ) (.cons (se rfl CEnt.fn0) .nil))))
 refine jq jrm ?_;refine jN ?_;refine jcr ?_;refine jq jrm ?_;refine jq jrn ?_;refine jq jrm ?_;refine jqsp 16 (fun g26=>?_) fun g26=>?_
 rotate_left
 ·refine jqs ?_;refine jqs ?_;refine jqs ?_;refine jqs ?_;refine jq jrpF ?_;refine jq jrm ?_;refine jqs ?_;refine jqs ?_;refine jqs ?_;refine jqs ?_;refine jqs ?_;refine jqs ?_;refine jqs ?_;refine jqs ?_;refine jqs ?_;refine jqs ?_;refine jq jrpF ?_;refine jq jrm ?_;refine jN ?_
  refine jR (jrt (hv:=?_))
  refine CEnt.bool ?_
  unfold rightA
  rw [← right_out]
  grind
 refine jq jrm ?_;refine jq (jri (i:=0)) ?_;refine jq jrdr ?_;refine jq jrc ?_;refine jq jrpT ?_;refine jq jrm ?_;refine jqsp 22 (fun g26_2=>?_) fun g26_2=>?_
 rotate_left
 ·refine jqs ?_;refine jqs ?_;refine jqs ?_;refine jqs ?_;refine jqs ?_;refine jqs ?_;refine jqs ?_;refine jqs ?_;refine jqs ?_;refine jqs ?_;refine jq jrpF ?_;refine jq jrm ?_;refine jN ?_
  refine jR (jrt (hv:=?_))
  refine CEnt.bool ?_
  unfold rightA
  rw [← right_out]
  (simp_all;omega)
 refine jq jrm ?_;refine jq (jri (i:=0)) ?_;refine jq jrdr ?_;refine jq jrc ?_;refine jq jrm ?_;refine jqsp 27 (fun g26_3=>?_) fun g26_3=>?_
 ·refine jqs ?_;refine jqs ?_;refine jqs ?_;refine jqs ?_;refine jq jrpT ?_;refine jq jrpT ?_;refine jq jrm ?_;refine jN ?_
  refine jR (jrt (hv:=?_))
  refine CEnt.bool ?_
  unfold rightA
  rw [← right_out]
  (simp_all;omega)
 refine jq jrm ?_;refine jq (jri (i:=1)) ?_;refine jq jrdr ?_;refine jq jrc ?_;refine jq jrpF ?_;refine jq jrpT ?_;refine jq jrm ?_;refine jN ?_
 refine jR (jrt (hv:=?_))
 refine CEnt.bool ?_
 unfold rightA
 rw [← right_out]
 (simp_all;omega)
end
end Am
end Go.Proofs.YteolfpolmioalaaGreatDoor
