/- What the law leans on, part 6: W04n, P03n, P08, W03r, W03s, W07s, W07t, W07u, W08j, W04r, W08u, W08k, Shelf, ShelfS -/
import Derived.Test.YtnijncmifjnifaaGreatDoorM5BundleRead
import Derived.Shelf.SlSortCmp.Kit1
import Derived.Shelf.Small.Bits
import Derived.Shelf.Small.Strs
import Derived.Shelf.Small.Wraps
import Derived.Shelf.Strconv.Itoa0
import Derived.Shelf.Strings.Search1
import Derived.Shelf.Strings.Prefix
import Derived.Test.YtnijncmifjnifaaGreatDoorProg
import Derived.Shelf.SlSortCmp.NoneTotal
import Derived.Ground.SlsfProg

set_option maxRecDepth 100000
namespace Go.Proofs.YtnijncmifjnifaaGreatDoor
set_option linter.unusedVariables false
namespace Am
open Go.RowKit
section
variable {gs:List Nat} [Ok9 gs]

theorem settled_ac {gs:List Nat} (h r:Int):ACp gs Tryz.prog 133 [.c (.int .u8 h),.c (.int .i64 r)] (.c (.bool ((r == 0 && decide (h<128)) || (r == -1 && decide (128≤h))))):=by
 refine jF5 1216516 19 Tryz.func133 fun al w0 F0 St0=>?_;refine jF4 110000000021 121150044 7 (fun g28=>?_) fun g28=>?_
 rotate_left
 ·refine jF4 800070005150010000000021 800070005150050044 14 (fun g28_2=>?_) fun g28_2=>?_
  ·(refine cB ?_;simp [*];done)
  (refine cB ?_;simp [*];done)
 refine jF4 8000700051100000000444444 121 11 (fun g28_2=>?_) fun g28_2=>?_
 ·(refine cB ?_;simp [*];done)
 refine jF4 800070005150010000000021 800070005150050044 14 (fun g28_3=>?_) fun g28_3=>?_
 ·omega
 (refine cB ?_;simp [*];done)
theorem i8_sgn (c:UInt8):IntKind.i8.wrap ((c.toNat:Nat):Int)=sgn c:=by
 have:=c.toNat_lt
 have e:IntKind.i8.wrap (c.toNat:Int)=((c.toNat:Int)+128) % 256-128:=by simp [IntKind.wrap,IntKind.bits,IntKind.signed];omega
 rw [e]
 unfold sgn
 split <;> omega
theorem sgn_bd (c:UInt8):-128≤sgn c∧sgn c≤127:=by
 have:=c.toNat_lt
 unfold sgn
 split <;> omega
theorem idle_of {l:List UInt8} (h:1<l.length):idle l=true↔((l.getD 0 0).toNat=0∧(l.getD 1 0).toNat<128)∨((l.getD 0 0).toNat=255∧128≤(l.getD 1 0).toNat):=by
 rw [idle_get l h]
 simp only [Bool.or_eq_true,Bool.and_eq_true,beq_iff_eq,decide_eq_true_eq]
set_option maxHeartbeats 1000000 in
theorem wget_ac (l:List UInt8):ACp gs Tryz.prog 117 [bsC l] (.tup 2 (fl [.c (.int .i64 (getM l).1),.err (getM l).2])):=by
 refine ac_len 0 rfl fun hlen=>?_
 have hsg:=sgn_bd (l.getD 0 0)
 have hid:=fun h=>idle_of (l:=l) h
 refine jF5 5116 65 Tryz.func117 fun al w0 F0 St0=>?_;refine jjn (α:=Unit) [2,3,7,45] (fun _=>[]) (fun _=>[]) (fun _=>l.length≠0∧¬ idle l=true∧l.length≤8) ?_ ?_
 ·refine jU 51231620 ?_;refine jF3 0 12316 (fun h34=>?_) fun h34=>?_
  ·refine jcs ?_;refine jcd (oN 0 3) ?_;refine jyq (jrde 1) ?_;refine jU 80003000500070008807070 ?_
   have hb:getM l=(0,2):=by unfold getM;rw [if_pos (by omega)]
   rw [hb];exact cZ
  refine jF4 126020000001 300515004444444444444444444444 16 (fun g36=>?_) fun g36=>?_
  rotate_left
  ·have hni:¬ idle l=true:=by
    by_cases h1:1<l.length
    ·rw [hid h1];omega
    ·rw [idle_short l (by omega)];exact Bool.noConfusion
   refine jU 512316 ?_;refine jF3 0 840010 (fun h38=>?_) fun h38=>?_
   rotate_left
   ·refine jjend () (h1:=?_) (h7:=by exact .nil)
    ·refine ⟨by omega,?_,by omega⟩
     by_cases h1:1<l.length
     ·rw [hid h1];omega
     ·rw [idle_short l (by omega)];exact Bool.noConfusion
   refine jcs ?_;refine jcd (oN 0 3) ?_;refine jyq (jrde 0) ?_;refine jU 80003000500070008807070 ?_
   have hb:getM l=(0,1):=by unfold getM;rw [if_neg (by omega),if_neg hni,if_pos (by omega)]
   rw [hb];exact cZ
  refine jF4 1 12602000000115004444 21 (fun g36_2=>?_) fun g36_2=>?_
  rotate_left
  ·refine jF4 1 300511000000005005004444 32 (fun g36_3=>?_) fun g36_3=>?_
   rotate_left
   ·have hni:¬ idle l=true:=by
     by_cases h1:1<l.length
     ·rw [hid h1];omega
     ·rw [idle_short l (by omega)];exact Bool.noConfusion
    refine jU 512316 ?_;refine jF3 0 840010 (fun h38=>?_) fun h38=>?_
    rotate_left
    ·refine jjend () (h1:=?_) (h7:=by exact .nil)
     ·refine ⟨by omega,?_,by omega⟩
      by_cases h1:1<l.length
      ·rw [hid h1];omega
      ·rw [idle_short l (by omega)];exact Bool.noConfusion
    refine jcs ?_;refine jcd (oN 0 3) ?_;refine jyq (jrde 0) ?_;refine jU 80003000500070008807070 ?_
    have hb:getM l=(0,1):=by unfold getM;rw [if_neg (by omega),if_neg hni,if_pos (by omega)]
    rw [hb];exact cZ
   refine jq (jri (i:=1)) ?_;refine jU 51100000000500100000000260 ?_;refine jcc (fun h36=>?_) fun h36=>?_
   ·refine jcs ?_;refine jcd (oN 0 3) ?_;refine jU 800030005000700088070704000000 ?_
    have hb:getM l=(0,4):=by unfold getM;rw [if_neg (by omega),if_pos ((hid (by omega)).2 (by omega))]
    rw [hb];exact cZ
   have hni:¬ idle l=true:=by
    by_cases h1:1<l.length
    ·rw [hid h1];omega
    ·rw [idle_short l (by omega)];exact Bool.noConfusion
   refine jU 512316 ?_;refine jF3 0 840010 (fun h38=>?_) fun h38=>?_
   rotate_left
   ·refine jjend () (h1:=?_) (h7:=by exact .nil)
    ·refine ⟨by omega,?_,by omega⟩
     by_cases h1:1<l.length
     ·rw [hid h1];omega
     ·rw [idle_short l (by omega)];exact Bool.noConfusion
   refine jcs ?_;refine jcd (oN 0 3) ?_;refine jyq (jrde 0) ?_;refine jU 80003000500070008807070 ?_
   have hb:getM l=(0,1):=by unfold getM;rw [if_neg (by omega),if_neg hni,if_pos (by omega)]
   rw [hb];exact cZ
  refine jq (jri (i:=1)) ?_;refine jU 1100000000260 ?_;refine jF4 79000511000000001000000004444444444 126020000001 27 (fun g36_3=>?_) fun g36_3=>?_
  ·refine jcd (oN 0 3) ?_;refine jU 800030005000700088070704000000 ?_
   have hb:getM l=(0,4):=by unfold getM;rw [if_neg (by omega),if_pos ((hid (by omega)).2 (by omega))]
   rw [hb];exact cZ
  refine jF4 1 300511000000005005004444 32 (fun g36_4=>?_) fun g36_4=>?_
  rotate_left
  ·have hni:¬ idle l=true:=by
    by_cases h1:1<l.length
    ·rw [hid h1];omega
    ·rw [idle_short l (by omega)];exact Bool.noConfusion
   refine jU 512316 ?_;refine jF3 0 840010 (fun h38=>?_) fun h38=>?_
   rotate_left
   ·refine jjend () (h1:=?_) (h7:=by exact .nil)
    ·refine ⟨by omega,?_,by omega⟩
     by_cases h1:1<l.length
     ·rw [hid h1];omega
     ·rw [idle_short l (by omega)];exact Bool.noConfusion
   refine jcs ?_;refine jcd (oN 0 3) ?_;refine jyq (jrde 0) ?_;refine jU 80003000500070008807070 ?_
   have hb:getM l=(0,1):=by unfold getM;rw [if_neg (by omega),if_neg hni,if_pos (by omega)]
   rw [hb];exact cZ
  refine jq (jri (i:=1)) ?_;refine jU 51100000000500100000000260 ?_;refine jcc (fun h36=>?_) fun h36=>?_
  ·refine jcs ?_;refine jcd (oN 0 3) ?_;refine jU 800030005000700088070704000000 ?_
   have hb:getM l=(0,4):=by unfold getM;rw [if_neg (by omega),if_pos ((hid (by omega)).2 (by omega))]
   rw [hb];exact cZ
  have hni:¬ idle l=true:=by
   by_cases h1:1<l.length
   ·rw [hid h1];omega
   ·rw [idle_short l (by omega)];exact Bool.noConfusion
  refine jU 512316 ?_;refine jF3 0 840010 (fun h38=>?_) fun h38=>?_
  rotate_left
  ·refine jjend () (h1:=?_) (h7:=by exact .nil)
   ·refine ⟨by omega,?_,by omega⟩
    by_cases h1:1<l.length
    ·rw [hid h1];omega
    ·rw [idle_short l (by omega)];exact Bool.noConfusion
  refine jcs ?_;refine jcd (oN 0 3) ?_;refine jyq (jrde 0) ?_;refine jU 80003000500070008807070 ?_
  have hb:getM l=(0,1):=by unfold getM;rw [if_neg (by omega),if_neg hni,if_pos (by omega)]
  rw [hb];exact cZ
 rintro u ⟨hl0,hni,hl8⟩
 refine jU 60200000016 ?_;refine jq (rd_convI rfl rfl Tryz.underlying5 Tryz.underlying204 (sgn (l.getD 0 0)) (i8_sgn _)) ?_;refine jq (rd_convI rfl rfl Tryz.underlying204 Tryz.underlying3 (sgn (l.getD 0 0)) (wrap_id (k:=.i64) (by show _∧_;omega))) ?_;refine jU 751 ?_
 have hb:getM l=(valS l,0):=by unfold getM;rw [if_neg (by omega),if_neg hni,if_neg (by omega)]
 have hv1:=valS_take_one l (by omega)
 refine jU 16 ?_;refine jq (jrsf (hz1:=(show (1:Int)=((1:Nat):Int) from rfl))) ?_;refine jU 20513 ?_
 refine jlp (α:=Nat) [4,4,6,6,54,63] (fun i=>[(54,.c (.int .i64 (i:Nat))),(4,.c (.int .i64 (valS (l.take (i+1)))))]) (fun _=>[]) (fun i=>i+1≤l.length) (fun i=>l.length-i) 0 (h0:=?_) (he:=.cons cZ (.cons (cI hv1.symm) .nil)) (hr:=?_)
 ·show 0+1≤l.length;omega
 rintro i (hi:i+1≤l.length)
 have hb:getM l=(valS l,0):=by unfold getM;rw [if_neg (by omega),if_neg hni,if_neg (by omega)]
 have hv1:=valS_take_one l (by omega)
 refine jU 7526 ?_;refine jF3 207810 800070005111684000200020006000 (fun h42=>?_) fun h42=>?_
 rotate_left
 ·have hil:i+1=l.length:=by simp only [List.length_drop] at *;omega
  rw [hb,hil,List.take_length];exact cT cZ (CEnt.nilE rfl)
 have hb:getM l=(valS l,0):=by unfold getM;rw [if_neg (by omega),if_neg hni,if_neg (by omega)]
 have hv1:=valS_take_one l (by omega)
 refine jcr ?_;refine jq (jri (i:=i) (hz:=by omega)) ?_;refine jU 5160 ?_
 have hdl:(l.drop 1).length=l.length-1:=List.length_drop
 have hde:(l.drop 1).getD i 0=l.getD (i+1) 0:=by simp [List.getD]
 have hvs:=valS_take_succ l i (by omega)
 have hsm:=valS_small (l.take (i+1)) (by rw [List.length_take];omega)
 have hcl:=(l.getD (i+1) 0).toNat_lt
 have hcd:=((l.drop 1).getD i 0).toNat_lt
 refine jU 1200 ?_;refine jq (rd_shl rfl rfl rfl (by (omega)) ((valS (l.take (i+1)) * 256)) ((by show IntKind.i64.wrap (valS (l.take (i+1)) * 256)=_;exact wrap_id (k:=.i64) (by show _∧_;omega)))) ?_;refine jU 1 ?_;refine jq (rd_convI rfl rfl Tryz.underlying5 Tryz.underlying3 ((((l.drop 1).getD i 0).toNat:Nat)) (wrap_id (k:=.i64) (by show _∧_;omega))) ?_;refine jq (rd_or rfl rfl rfl (valS (l.take (i+1+1))) ((by rw [hde,hvs];exact i64_join _ _ (by omega) (by omega) (by omega) (by omega)))) ?_;refine jU 840051 ?_
 have hb:getM l=(valS l,0):=by unfold getM;rw [if_neg (by omega),if_neg hni,if_neg (by omega)]
 have hv1:=valS_take_one l (by omega)
 refine jU 8519200 ?_
 exact jlend (i+1)
theorem wrange_ac (l:List UInt8) (least most:Int):ACp gs Tryz.prog 82 [bsC l,.c (.int .i64 least),.c (.int .i64 most)] (.tup 2 (fl [.c (.int .i64 (rangeM l least most).1),.err (rangeM l least most).2])):=by
 refine jF5 165116 30 Tryz.func82 fun al w0 F0 St0=>?_;refine jF1 51500000162075119009001 (wget_ac l) ?_;refine jF3 800030005000700051116 12116 (fun h52=>?_) fun h52=>?_
 ·have hb:rangeM l least most=(0,(getM l).2):=by unfold rangeM;rw [if_pos (by omega)]
  rw [hb];exact cZ
 refine jF4 7900051100000000444 51500211 23 (fun g54=>?_) fun g54=>?_
 ·refine jcd (oN 0 3) ?_;refine jyq (jrde 0) ?_;refine jU 80003000500070008807070 ?_
  have hb:rangeM l least most=(0,1):=by unfold rangeM;rw [if_neg (by omega),if_pos (by omega)]
  rw [hb];exact cZ
 refine jF3 0 8000700051116840010 (fun h54=>?_) fun h54=>?_
 rotate_left
 ·have hb:rangeM l least most=((getM l).1,0):=by unfold rangeM;rw [if_neg (by omega),if_neg (by omega)]
  rw [hb];exact cT cZ (CEnt.nilE rfl)
 refine jcs ?_;refine jcd (oN 0 3) ?_;refine jyq (jrde 0) ?_;refine jU 80003000500070008807070 ?_
 have hb:rangeM l least most=(0,1):=by unfold rangeM;rw [if_neg (by omega),if_pos (by omega)]
 rw [hb];exact cZ
def lenN (n:Int):Nat:=((List.range 8).find? fun k=>stp k n).getD 7
def putN (n:Int):List UInt8:=(digs (lenN n+1) n).reverse
theorem lenN_is {n:Int} (h1:-9223372036854775808≤n) (h2:n≤9223372036854775807):IsLen n (lenN n):=by
 unfold lenN
 have h7:=stp_seven n h1 h2
 cases e:(List.range 8).find? fun k=>stp k n with
 | none =>
  have:=List.find?_eq_none.1 e 7 (by simp)
  exact absurd h7 this
 | some k =>
  rw [List.find?_range_eq_some] at e
  obtain ⟨e1,e2,e3⟩:=e
  have:=List.mem_range.1 e2
  exact ⟨by show k≤7;omega,e1,fun j hj=>by have:=e3 j hj;simpa using this⟩
theorem putN_of {n:Int} {k:Nat} (h1:-9223372036854775808≤n) (h2:n≤9223372036854775807) (h:IsLen n k):(digs (k+1) n).reverse=putN n:=by
 unfold putN
 rw [h.unique (lenN_is h1 h2)]
theorem putN_get {n:Int} (h1:-9223372036854775808≤n) (h2:n≤9223372036854775807):getM (putN n)=(n,0):=getM_put n _ (lenN_is h1 h2)
theorem putN_len (n:Int) (h1:-9223372036854775808≤n) (h2:n≤9223372036854775807):1≤(putN n).length∧(putN n).length≤8:=by
 have:=(lenN_is h1 h2).1
 unfold putN
 rw [List.length_reverse,digs_length]
 omega
theorem shr8 (a:Int):a.fdiv (2 ^ (min (8:Int).toNat IntKind.i64.bits))=a / 256:=by
 show a.fdiv 256=a / 256
 rw [Int.fdiv_eq_ediv_of_nonneg a (by decide)]
theorem byte_wrap (a:Int):IntKind.u8.wrap a=((byte a).toNat:Nat):=by rw [IntKind.wrap_u8,byte_toNat]
theorem digs_last (k:Nat) (n:Int):(((digs (k+1) n).getD k 0).toNat:Int)=sh k n % 256:=by rw [digs_get _ _ _ (by omega),byte_toNat]
set_option maxHeartbeats 1000000 in
theorem wput_ac {gs:List Nat} (n:Int) (h1:-9223372036854775808≤n) (h2:n≤9223372036854775807):ACp gs Tryz.prog 97 [.c (.int .i64 n)] (bsC (putN n)):=by
 have h7:=stp_seven n h1 h2
 refine jF5 16516 29 Tryz.func97 fun al w0 F0 St0=>?_;refine jq (rd_convI rfl rfl Tryz.underlying3 Tryz.underlying5 ((((byte n).toNat:Nat):Int)) (byte_wrap n)) ?_;refine jF6 16751 1 1 zr5 fun p1=>?_;refine jq (rd_shr rfl rfl rfl (by (omega)) (_) (rfl)) ?_;refine jU 2051 ?_
 refine jlp (α:=Nat×Option Nat) [3,4,10,25] (fun (k,g)=>[(3,.os 0 g 0 (digs (k+1) n).length 1),(4,.c (.int .i64 (sh (k+1) n)))]) (fun (k,g)=>[(g,.blk (digs (k+1) n).length (byF (digs (k+1) n)))]) (fun (k,g)=>k≤7∧∀ j,j<k→stp j n=false) (fun (k,g)=>8-k) (0,p1) (h0:=⟨Nat.zero_le _,fun j hj=>absurd hj (Nat.not_lt_zero j)⟩) (he:=.cons cZ (.cons (cI (shr8 n)) .nil)) (hH:=.blk rfl (fun j hj=>by obtain rfl:j=0:=(by rw [digs_length] at hj;omega);exact cZ) .nil) (hr:=?_)
 rintro ⟨k,g⟩ ⟨(hk:k≤7),hno⟩
 have hdl:=digs_last k n
 have hdn:=digs_length (k+1) n
 refine jU 931167 ?_;refine jq (jri (i:=k) (hz:=by omega)) ?_;refine jU 150 ?_;refine jF1 530 (settled_ac (((digs (k+1) n).getD k 0).toNat:Nat) (sh (k+1) n)) ?_;refine jF3 207810 84000200020006000 (fun h19=>?_) fun h19=>?_
 rotate_left
 ·have hst:stp k n=true:=by
   unfold stp
   have hh:=h19
   rw [hdl] at hh
   (simp at hh ⊢;omega)
  refine jU 16 ?_;refine jF2 51165 0 (reverse8_ac _ (digs (k+1) n) (by omega)) ?_;refine jE (freeze 0 rfl) ?_;refine jE (thawB 2 ((digs (k+1) n).reverse) rfl rfl (by simp) rfl) ?_
  refine jR (jrt (hv:=CEnt.bs (putN_of h1 h2 ⟨hk,hst,hno⟩)))
 have hst:stp k n=false:=by
  unfold stp
  have hh:=h19
  rw [hdl] at hh
  (simp at hh ⊢;omega)
 refine jU 11200 ?_;refine jq (rd_convI rfl rfl Tryz.underlying3 Tryz.underlying5 ((((byte (sh (k+1) n)).toNat:Nat):Int)) (byte_wrap _)) ?_
 refine jqe (jebl 1 1 zr5 fun p2=>?_)
 refine jqm (jab (l2:=[byte (sh (k+1) n)]) fun p3=>?_)
 refine jU 1200840051 ?_;refine jq (rd_shr rfl rfl rfl (by (omega)) (_) (rfl)) ?_;refine jU 851 ?_
 refine jlend (k+1,p3) (h1:=?_) (h5:=by exact .cons (cO (by rw [← digs_succ])) (.cons (cI (shr8 _)) .nil)) (h7:=by exact .blk (by rw [← digs_succ]) (fun j hj=>CEnt.of_eq (by rw [← digs_succ])) .nil)
 ·have hk7:k≠7:=fun e=>by
   rw [e] at hst;rw [hst] at h7;cases h7
  refine ⟨by omega,fun j hj=>?_⟩
  by_cases e:j=k
  ·rw [e];exact hst
  ·exact hno j (by omega)
end
section
def fromM (b:List UInt8):Nat:=if (nextM b).e=0 then b.length-(nextM b).rest.length-(nextM b).body.length else 0
def toM (b:List UInt8):Nat:=if (nextM b).e=0 then b.length-(nextM b).rest.length else 0

theorem b8_self (a:UInt8) (n:Nat) (h:n % 256=a.toNat):b8 n=a:=by
 apply UInt8.toNat_inj.1
 rw [b8_mod,h]
theorem lenL_iff {c:UInt8} {l:List UInt8} (hl:1≤l.length∧l.length≤4) (hc:c.toNat=128+l.length):lenL (beN l)=c::l↔¬(beN l≤127∨(l.getD 0 0).toNat=0):=by
 match l,hl with
 | [x],_ =>
  have hx:=x.toNat_lt
  have e:beN [x]=x.toNat:=by simp [beN]
  rw [e]
  have c1:c=129:=UInt8.toNat_inj.1 (by rw [hc];rfl)
  grind [lenL,b8_self]
 | [x,y],_ =>
  have hx:=x.toNat_lt
  have hy:=y.toNat_lt
  have e:beN [x,y]=x.toNat * 256+y.toNat:=by simp [beN]
  rw [e]
  have c1:c=130:=UInt8.toNat_inj.1 (by rw [hc];rfl)
  grind [lenL,b8_self]
 | [x,y,z],_ =>
  have hx:=x.toNat_lt
  have hy:=y.toNat_lt
  have hz:=z.toNat_lt
  have e:beN [x,y,z]=(x.toNat * 256+y.toNat) * 256+z.toNat:=by simp [beN]
  rw [e]
  have c1:c=131:=UInt8.toNat_inj.1 (by rw [hc];rfl)
  subst c1
  unfold lenL
  split
  ·grind
  ·split
   ·grind
   ·split
    ·grind
    ·rw [if_pos (by omega)]
     exact ⟨fun _=>by simp;omega,fun _=>by rw [b8_self x _ (by omega),b8_self y _ (by omega),b8_self z _ (by omega)]⟩
 | [x,y,z,t],_ =>
  have hx:=x.toNat_lt
  have hy:=y.toNat_lt
  have hz:=z.toNat_lt
  have ht:=t.toNat_lt
  have e:beN [x,y,z,t]=((x.toNat * 256+y.toNat) * 256+z.toNat) * 256+t.toNat:=by simp [beN]
  rw [e]
  have c1:c=132:=UInt8.toNat_inj.1 (by rw [hc];rfl)
  subst c1
  unfold lenL
  split
  ·grind
  ·split
   ·grind
   ·split
    ·grind
    ·split
     ·grind
     ·exact ⟨fun _=>by simp;omega,fun _=>by rw [b8_self x _ (by omega),b8_self y _ (by omega),b8_self z _ (by omega),b8_self t _ (by omega)]⟩
theorem at_cons {b:List UInt8} {k:Nat} (h:1<b.length):(b.take (2+k)).drop 1=b.getD 1 0::(b.drop 2).take k:=by
 match b,h with
 | x::y::r,_=>grind
theorem get_take {b:List UInt8} {k i:Nat} (h:i<k):((b.drop 2).take k).getD i 0=b.getD (2+i) 0:=by
 simp [List.getD,h]
theorem meas_short {b:List UInt8} (h:1<b.length) (hc:(b.getD 1 0).toNat<128):measM (b.drop 1)=⟨0,(b.getD 1 0).toNat,b.drop 2⟩:=by
 rw [measM_ne (c:=(b.getD 1 0).toNat) (r:=b.drop 2) (by simp;omega) (by simp [List.getD]) (by simp),if_pos (by omega)]
theorem meas_long {b:List UInt8} {k:Nat} (h:1<b.length) (hc:(b.getD 1 0).toNat=128+k):measM (b.drop 1)=if k=0∨4<k then ⟨4,0,[]⟩ else if b.length-2<k then ⟨2,0,[]⟩ else
  if lenL (beN ((b.drop 2).take k))=(b.take (2+k)).drop 1 then ⟨0,beN ((b.drop 2).take k),b.drop (2+k)⟩ else ⟨4,0,[]⟩:=by
 rw [measM_ne (c:=(b.getD 1 0).toNat) (r:=b.drop 2) (by simp;omega) (by simp [List.getD]) (by simp),if_neg (by omega)]
 grind [at_cons,List.drop_drop,lenL_iff]
end
section
open Go.RowKit Cal
structure VV where
 kind:Int
 n:Int
 is:Bool
 b:List UInt8
 t:List UInt8
def VV.none:VV:=⟨0,0,false,[],[]⟩
structure W8 where
 fr:List (Int×List (List UInt8))
 d:List UInt8
 k:Nat
def failW (e:Nat) (s:W8):W8:=if s.k=0 then ⟨s.fr,s.d,e⟩ else s
def addW (b:List UInt8) (s:W8):W8:=match s.fr with
 | []=>⟨[],s.d++b,s.k⟩
 | x::r=>⟨(x.1,x.2++[b])::r,s.d,s.k⟩
def putW (tag:Int) (body:List UInt8) (e:Nat) (s:W8):W8 :=
 if (failW e s).k≠0 then failW e s else if putE tag body≠0 then ⟨s.fr,s.d,putE tag body⟩ else addW (putL tag body) s
def openW (tag:Int) (s:W8):W8:=if s.k≠0 then s else if madeM tag=false then ⟨s.fr,s.d,5⟩ else if s.fr.length=16 then ⟨s.fr,s.d,6⟩ else ⟨(tag,[])::s.fr,s.d,s.k⟩
def bodyF (x:Int×List (List UInt8)):List UInt8:=if x.1=49 then (sortL x.2).flatten else x.2.flatten
def closeV (s:W8):W8:=if s.k≠0 then s else match s.fr with
 | []=>⟨[],s.d,24⟩
 | x::r=>putW x.1 (bodyF x) 0 ⟨r,s.d,s.k⟩
def rawW (b:List UInt8) (s:W8):W8:=if (failW (depthM b).2 s).k=0 then addW b s else failW (depthM b).2 s
def doneK (s:W8):Nat:=if s.k≠0 then s.k else if s.fr≠[] then 24 else if 65536<s.d.length then 3 else 0
def doneB (s:W8):List UInt8:=if doneK s=0 then s.d else []
def bitsL (n:Int):List UInt8:=if n<0∨32767<n then [] else flagsL n.toNat
def bitsE (n:Int):Nat:=if n<0∨32767<n then 1 else 0
def bodyV (v:VV):Int×List UInt8×Nat :=
 if v.kind=3 then (2,putN v.n,0) else
 if v.kind=4 then (10,putN v.n,0) else
 if v.kind=5 then (1,[if v.is then 255 else 0],0) else
 if v.kind=6 then (4,v.b,0) else
 if v.kind=7 then (12,if askedM v.t v.n=0 then v.t else [],askedM v.t v.n) else
 if v.kind=8 then (6,putM v.t,(parseM v.t).2) else
 if v.kind=9 then (24,if inT v.n then bodyL (ofM v.n) else [],ofE v.n) else (3,bitsL v.n,bitsE v.n)
def doW (v:VV) (s:W8):W8 :=
 if v.kind=1 then openW v.n s else if v.kind=2 then closeV s else if v.kind=11 then rawW v.b s else putW (bodyV v).1 (bodyV v).2.1 (bodyV v).2.2 s
structure R8 where
 tags:List Int
 rows:List (List (List UInt8))
 e:Nat
def padR (m:Nat) (r:List (List (List UInt8))):List (List (List UInt8)):=r++List.replicate (m-r.length) []
def raddS (b:List UInt8) (s:R8):R8:=⟨s.tags,(padR (s.tags.length+1) s.rows).set s.tags.length ((padR (s.tags.length+1) s.rows).getD s.tags.length []++[b]),s.e⟩
def rputS (tag:Int) (b:List UInt8) (s:R8):R8:=if 65530<b.length then ⟨s.tags,s.rows,3⟩ else raddS (putL tag b) s
def ropenS (n:Int) (s:R8):R8:=if madeM n=false then ⟨s.tags,s.rows,5⟩ else if 16≤s.tags.length then ⟨s.tags,s.rows,6⟩ else ⟨s.tags++[n],(padR (s.tags.length+2) s.rows).set (s.tags.length+1) [],s.e⟩
def rcloseS (s:R8):R8:=if s.tags.length=0 then ⟨s.tags,s.rows,24⟩ else
 rputS (s.tags.getD (s.tags.length-1) 0) (bodyF (s.tags.getD (s.tags.length-1) 0,s.rows.getD s.tags.length [])) ⟨s.tags.take (s.tags.length-1),s.rows,s.e⟩
def rdoS (v:VV) (s:R8):R8 :=
 if s.e≠0 then s else if v.kind=1 then ropenS v.n s else if v.kind=2 then rcloseS s else
 if v.kind=11 then (if (depthM v.b).2≠0 then ⟨s.tags,s.rows,(depthM v.b).2⟩ else raddS v.b s) else
 if (bodyV v).2.2≠0 then ⟨s.tags,s.rows,(bodyV v).2.2⟩ else rputS (bodyV v).1 (bodyV v).2.1 s
def rdoneE (s:R8):Nat:=if s.e≠0 then s.e else if 0<s.tags.length then 24 else if 65536<(s.rows.getD 0 []).flatten.length then 3 else 0
def rdoneB (s:R8):List UInt8:=if rdoneE s=0 then (s.rows.getD 0 []).flatten else []
structure Same8 (r:R8) (s:W8):Prop where
 tags:r.tags=(s.fr.map Prod.fst).reverse
 e:r.e=s.k
 row0:(r.rows.getD 0 []).flatten=s.d
 row:∀ j,j<s.fr.length→r.rows.getD (j+1) []=((s.fr.map Prod.snd).reverse).getD j []
 len:r.tags.length≠0→r.tags.length<r.rows.length
 known:∀ x ∈ s.fr,madeM x.1=true
 lim:s.fr.length≤16
theorem same_zero:Same8 ⟨[],[],0⟩ ⟨[],[],0⟩:=⟨rfl,rfl,rfl,fun j h=>by simp at h,fun h=>by simp at h,fun _ h=>(by cases h),by decide⟩
theorem pad_len (m:Nat) (r:List (List (List UInt8))):(padR m r).length=max m r.length:=by simp [padR];omega
theorem pad_get (m:Nat) (r:List (List (List UInt8))) (j:Nat):(padR m r).getD j []=r.getD j []:=by
 grind [padR]
theorem set_get (l:List (List (List UInt8))) (i j:Nat) (x:List (List UInt8)) (hi:i<l.length):(l.set i x).getD j []=if j=i then x else l.getD j []:=by
 grind
theorem same_add {r:R8} {s:W8} (h:Same8 r s) (b:List UInt8):Same8 (raddS b r) (addW b s):=by
 have hl:r.tags.length=s.fr.length:=by rw [h.tags];simp
 have hp:r.tags.length<(padR (r.tags.length+1) r.rows).length:=by rw [pad_len];omega
 obtain ⟨fr,d,k⟩:=s
 cases fr with
 | nil =>
  refine ⟨h.tags,h.e,?_,fun j hj=>by simp [addW] at hj,fun h0=>?_,h.known,h.lim⟩
  ·have h0:r.tags.length=0:=hl
   show List.flatten (List.getD (List.set _ _ _) _ _)=_
   rw [set_get _ _ _ _ hp,if_pos h0.symm,h0,pad_get,List.flatten_append,h.row0]
   simp [addW]
  ·exact absurd hl h0
 | cons x fr =>
  have hl':r.tags.length=fr.length+1:=hl
  refine ⟨?_,h.e,?_,fun j hj=>?_,fun _=>?_,fun y hy=>?_,h.lim⟩
  ·show r.tags=_
   rw [h.tags]
   simp [addW]
  ·show List.flatten (List.getD (List.set _ _ _) _ _)=_
   rw [set_get _ _ _ _ hp,if_neg (by omega),pad_get,h.row0]
   rfl
  ·have hj:j<fr.length+1:=hj
   show List.getD (List.set _ _ _) _ _=_
   rw [set_get _ _ _ _ hp]
   simp only [addW,List.map_cons,List.reverse_cons]
   have hr:=h.row j hj
   simp only [List.map_cons,List.reverse_cons] at hr
   grind [pad_get]
  ·show r.tags.length<(List.set _ _ _).length
   simp_all
  ·rcases List.mem_cons.1 hy with rfl|hy
   ·exact h.known x List.mem_cons_self
   ·exact h.known y (List.mem_cons_of_mem _ hy)
theorem made_known {t:Int} (h:madeM t=true):knownM t=true:=by unfold knownM;rw [h];rfl
theorem same_put {r:R8} {s:W8} (h:Same8 r s) (hk:s.k=0) {tag:Int} (ht:knownM tag=true) (b:List UInt8):Same8 (rputS tag b r) (putW tag b 0 s):=by
 have e0:failW 0 s=s:=by
  obtain ⟨fr,d,k⟩:=s
  obtain rfl:k=0:=hk
  rfl
 unfold putW
 rw [e0,if_neg (by omega)]
 unfold putE rputS
 rw [ht]
 simp only [Bool.true_eq_false,if_false]
 by_cases hb:65530<b.length
 ·rw [if_pos hb,if_pos hb,if_pos (by decide)]
  exact ⟨h.tags,rfl,h.row0,h.row,h.len,h.known,h.lim⟩
 grind [same_add]
theorem same_open {r:R8} {s:W8} (h:Same8 r s) (hk:s.k=0) (n:Int):Same8 (ropenS n r) (openW n s):=by
 have hl:r.tags.length=s.fr.length:=by rw [h.tags];simp
 have hlim:=h.lim
 unfold ropenS openW
 rw [if_neg (show ¬ s.k≠0 by omega)]
 by_cases hm:madeM n=false
 ·rw [if_pos hm,if_pos hm]
  exact ⟨h.tags,rfl,h.row0,h.row,h.len,h.known,h.lim⟩
 ·rw [if_neg hm,if_neg hm]
  by_cases h16:s.fr.length=16
  ·rw [if_pos (by omega),if_pos h16]
   exact ⟨h.tags,rfl,h.row0,h.row,h.len,h.known,h.lim⟩
  ·rw [if_neg (by omega),if_neg h16]
   have hp:r.tags.length+1<(padR (r.tags.length+2) r.rows).length:=by rw [pad_len];omega
   refine ⟨?_,h.e,?_,fun j hj=>?_,fun _=>?_,fun y hy=>?_,?_⟩
   ·show r.tags++[n]=_
    rw [h.tags]
    simp
   ·show List.flatten (List.getD (List.set _ _ _) _ _)=_
    rw [set_get _ _ _ _ hp,if_neg (by omega),pad_get,h.row0]
   ·have hj:j<s.fr.length+1:=hj
    show List.getD (List.set _ _ _) _ _=_
    rw [set_get _ _ _ _ hp]
    simp only [List.map_cons,List.reverse_cons]
    by_cases e:j=s.fr.length
    ·simp_all
    ·rw [if_neg (by omega),pad_get,h.row j (by omega)]
     grind
   ·simp_all
   ·rcases List.mem_cons.1 hy with rfl|hy
    ·simpa using hm
    ·exact h.known y hy
   grind
theorem same_close {r:R8} {s:W8} (h:Same8 r s) (hk:s.k=0):Same8 (rcloseS r) (closeV s):=by
 have hl:r.tags.length=s.fr.length:=by rw [h.tags];simp
 unfold rcloseS closeV
 rw [if_neg (show ¬ s.k≠0 by omega)]
 obtain ⟨fr,d,k⟩:=s
 cases fr with
 | nil =>
  rw [if_pos (show r.tags.length=0 from hl)]
  exact ⟨h.tags,rfl,h.row0,h.row,h.len,h.known,h.lim⟩
 | cons x fr =>
  have hl:r.tags.length=fr.length+1:=hl
  rw [if_neg (by omega)]
  have ht:r.tags=(fr.map Prod.fst).reverse++[x.1]:=by rw [h.tags];simp
  have e1:r.tags.getD (r.tags.length-1) 0=x.1:=by
   rw [hl,ht]
   simp [List.getD_eq_getElem?_getD]
  have e2:r.rows.getD r.tags.length []=x.2:=by
   rw [hl,h.row fr.length (by simp)]
   simp [List.getD_eq_getElem?_getD]
  rw [e1,e2]
  refine same_put (r:=⟨r.tags.take (r.tags.length-1),r.rows,r.e⟩) (s:=⟨fr,d,k⟩) ⟨?_,h.e,h.row0,fun j hj=>?_,fun h0=>?_,fun y hy=>h.known y (List.mem_cons_of_mem _ hy),?_⟩ hk (made_known (h.known x List.mem_cons_self)) _
  ·simp_all
  ·have hj:j<fr.length:=hj
   show r.rows.getD (j+1) []=_
   rw [h.row j (by simp;omega)]
   grind
  ·show (r.tags.take _).length<r.rows.length
   have:=h.len (by omega)
   grind
  ·have:=h.lim
   grind
theorem same_do {r:R8} {s:W8} (h:Same8 r s) (v:VV):Same8 (rdoS v r) (doW v s):=by
 unfold rdoS doW
 have he:=h.e
 by_cases hk:s.k=0
 ·rw [if_neg (show ¬ r.e≠0 by omega)]
  split
  ·exact same_open h hk _
  ·split
   ·exact same_close h hk
   ·split
    ·unfold rawW
     have e:(failW (depthM v.b).2 s).k=(depthM v.b).2:=by unfold failW;rw [if_pos hk]
     rw [e]
     by_cases h0:(depthM v.b).2=0
     ·grind [same_add]
     ·rw [if_pos h0,if_neg h0]
      unfold failW
      rw [if_pos hk]
      exact ⟨h.tags,rfl,h.row0,h.row,h.len,h.known,h.lim⟩
    ·by_cases h0:(bodyV v).2.2=0
     ·rw [if_neg (by omega),h0]
      refine same_put h hk ?_ _
      unfold bodyV
      repeat' split
      all_goals (first|rfl|decide)
     ·rw [if_pos h0]
      have e:failW (bodyV v).2.2 s=⟨s.fr,s.d,(bodyV v).2.2⟩:=by unfold failW;rw [if_pos hk]
      unfold putW
      rw [e,if_pos h0]
      exact ⟨h.tags,rfl,h.row0,h.row,h.len,h.known,h.lim⟩
 grind [failW,putW,openW,closeV,rawW]
theorem same_done {r:R8} {s:W8} (h:Same8 r s):rdoneE r=doneK s∧rdoneB r=doneB s:=by
 have hl:r.tags.length=s.fr.length:=by rw [h.tags];simp
 have e:rdoneE r=doneK s:=by
  unfold rdoneE doneK
  rw [h.e,h.row0,hl]
  cases s.fr <;> simp
 exact ⟨e,by unfold rdoneB doneB;rw [e,h.row0]⟩
end
section
theorem nxE {b:List UInt8} {k:Nat} (h:nextM b=⟨k,0,[],[]⟩) (hk:k≠0):CEnt (.tup 4 (fl [.c (.int .i64 0),.c (.int .i64 0),.c (.int .i64 0),.c (.int .i64 (k:Nat))])) (.tup 4 (fl [.c (.int .i64 (nextM b).tag),.c (.int .i64 (fromM b)),.c (.int .i64 (toM b)),.c (.int .i64 (nextM b).e)])):=by
 unfold fromM toM
 rw [h,if_neg hk,if_neg hk]
 exact cZ
theorem nxO {b body rest:List UInt8} {t:Nat} {x y z:Int} (h:nextM b=⟨0,t,body,rest⟩) (hx:x=(t:Nat)) (hy:y=((b.length-rest.length-body.length:Nat):Int)) (hz:z=((b.length-rest.length:Nat):Int)):CEnt (.tup 4 (fl [.c (.int .i64 x),.c (.int .i64 y),.c (.int .i64 z),.c (.int .i64 0)])) (.tup 4 (fl [.c (.int .i64 (nextM b).tag),.c (.int .i64 (fromM b)),.c (.int .i64 (toM b)),.c (.int .i64 (nextM b).e)])):=by
 unfold fromM toM
 rw [h,if_pos rfl,if_pos rfl,hx,hy,hz]
 exact cZ
theorem rnext_ac {gs:List Nat} (b:List UInt8) (hb:b.length≤10000000):ACp gs Tryz.prog 123 [bsC b] (.tup 4 (fl [.c (.int .i64 (nextM b).tag),.c (.int .i64 (fromM b)),.c (.int .i64 (toM b)),.c (.int .i64 (nextM b).e)])):=by
 refine jF5 523167511116 81 Tryz.func123 fun al w0 F0 St0=>?_;refine jF3 511116 70000000602000000167810 (fun h43=>?_) fun h43=>?_
 ·refine jR (jtr (jrt (hv:=nxE (k:=2) (by unfold nextM;rw [if_pos (by omega)]) (by decide))))
 refine jF1 530 (rknown_ac _) ?_;refine jF3 511116 7810 (fun h46=>?_) fun h46=>?_
 ·refine jR (jtr (jrt (hv:=nxE (k:=5) (by unfold nextM;rw [if_neg (by omega),if_pos (by simpa using h46)]) (by decide))))
 obtain ⟨t,ht⟩:∃ t,t=(b.getD 0 0).toNat:=⟨_,rfl⟩
 have hk:knownM (t:Nat)=true:=by rw [ht];simpa using h46
 have hN:=nextM_ne (by omega) ht hk rfl
 refine jU 52316 ?_;refine jF3 800030007000511116 16810 (fun h49=>?_) fun h49=>?_
 ·have hm:measM (b.drop 1)=⟨2,0,[]⟩:=by unfold measM;rw [if_pos (by rw [List.length_drop];omega)]
  exact nxE (k:=2) (by rw [hN,hm];rfl) (by decide)
 refine jq (jri (i:=1)) ?_;refine jU 75117000000060 ?_
 obtain ⟨c,hc⟩:∃ c,c=(b.getD 1 0).toNat:=⟨_,rfl⟩
 have c8:c<256:=by rw [hc];exact (b.getD 1 0).toNat_lt
 refine jE (weaken 6 (.c (.int .i64 (c:Nat))) (cI (by rw [hc]))) ?_;refine jU 5216 ?_;refine jF3 751916 7810 (fun h53=>?_) fun h53=>?_
 rotate_left
 ·first
   | have hM2:=meas_short (b:=b) (by omega) (by omega)
   |(rw [if_neg (by omega),if_neg (by omega),if_pos (Classical.not_not.1 h66)] at hM;have hM2:=hM)
  rw [hM2] at hN
  dsimp only at hN
  rw [if_neg (by decide)] at hN
  refine jU 5216 ?_;refine jF3 511116 529131167810 (fun h70=>?_) fun h70=>?_
  ·refine jR (jtr (jrt (hv:=nxE (k:=3) (by rw [hN,if_pos (by omega)]) (by decide))))
  refine jF3 511116 5111191117000000060200000016810 (fun h73=>?_) fun h73=>?_
  ·refine jR (jtr (jrt (hv:=nxE (k:=2) (by rw [hN,if_neg (by omega),if_pos (by rw [List.length_drop];omega)]) (by decide))))
  refine jR (jrt (hv:=nxO (by rw [hN,if_neg (by omega),if_neg (by rw [List.length_drop];omega)]) (by rw [ht]) (by simp only [List.length_drop,List.length_take];omega) (by simp only [List.length_drop];omega)))
 obtain ⟨k,hk8⟩:∃ k,c=128+k:=⟨c-128,by omega⟩
 have hM:=meas_long (b:=b) (k:=k) (by omega) (by omega)
 refine jE (weaken 8 (.c (.int .i64 (k:Nat))) (cI (by omega))) ?_;refine jU 1216 ?_;refine jF4 80003000300070005111169000510000000044 550021 32 (fun g55=>?_) fun g55=>?_
 ·rw [if_pos (by omega)] at hM
  exact nxE (k:=4) (by rw [hN,hM];rfl) (by decide)
 refine jF3 8000300030007000511116 52193167810 (fun h55=>?_) fun h55=>?_
 ·rw [if_pos (by omega)] at hM
  exact nxE (k:=4) (by rw [hN,hM];rfl) (by decide)
 refine jF3 8000300030007000511116 810 (fun h58=>?_) fun h58=>?_
 ·rw [if_neg (by omega),if_pos (by omega)] at hM
  exact nxE (k:=2) (by rw [hN,hM];rfl) (by decide)
 have hk4:1≤k∧k≤4:=by omega
 have htl:((b.drop 2).take k).length=k:=by simp;omega
 refine jU 205167516 ?_
 refine jlp (α:=Nat) [6,6,9,9,41,54] (fun i=>[(6,.c (.int .i64 (beN (((b.drop 2).take k).take i):Nat))),(9,.c (.int .i64 (i:Nat)))]) (fun _=>[]) (fun i=>i≤k) (fun i=>k-i) 0 (hr:=?_)
 rintro i (hi:i≤k)
 refine jU 521167 ?_;refine jF3 207810 84000200020006000 (fun h62=>?_) fun h62=>?_
 ·have hbn:=beN_lt (((b.drop 2).take k).take i)
  have hbl:(((b.drop 2).take k).take i).length=i:=by simp;omega
  have hb3:beN (((b.drop 2).take k).take i)<16777216:=by
   rw [hbl] at hbn
   have:i≤3:=by omega
   have:=Nat.pow_le_pow_right (n:=256) (by decide) this
   omega
  have hc8:=(b.getD (2+i) 0).toNat_lt
  refine jU 91191200 ?_;refine jq (jri (i:=(2+i)) (hz:=by omega)) ?_;refine jU 8519120084005197000000060 ?_
  exact jlend (i+1) (h5:=by exact .cons (cI (by rw [beN_take (by omega),get_take (by omega)];omega)) (.cons cZ .nil))
 obtain rfl:k=i:=by omega
 have hb4:beN ((b.drop 2).take k)<4294967296:=by
  have h:=beN_lt ((b.drop 2).take k)
  rw [htl] at h
  have:=Nat.pow_le_pow_right (n:=256) (by decide) hk4.2
  omega
 refine jE (weaken 6 (.c (.int .i64 (beN ((b.drop 2).take k):Nat))) (cI (by rw [List.take_take,Nat.min_self]))) ?_;refine jU 751916 ?_;refine jcd (oT [0,6,8,10,12,3,4,14] .done) ?_;refine jU 707070 ?_;refine jyq (jrsb (hz1:=(show (1:Int)=((1:Nat):Int) from rfl))) ?_;refine jyq jrbs ?_
 refine jye (jecP (rlen_ac (beN ((b.drop 2).take k)) (by omega)) ?_ (ho:=rfl) (he:=(.cons (se rfl (cI (by omega))) .nil)))
 refine jyq jrbs ?_;refine jyq jrcs ?_;refine jU 880 ?_;refine jF3 800030007000511116 7810 (fun h66=>?_) fun h66=>?_
 ·rw [if_neg (by omega),if_neg (by omega),if_neg h66] at hM
  exact nxE (k:=4) (by rw [hN,hM];rfl) (by decide)
 first
  | have hM2:=meas_short (b:=b) (by omega) (by omega)
  |(rw [if_neg (by omega),if_neg (by omega),if_pos (Classical.not_not.1 h66)] at hM;have hM2:=hM)
 rw [hM2] at hN
 dsimp only at hN
 rw [if_neg (by decide)] at hN
 refine jU 5216 ?_;refine jF3 511116 529131167810 (fun h70=>?_) fun h70=>?_
 ·refine jR (jtr (jrt (hv:=nxE (k:=3) (by rw [hN,if_pos (by omega)]) (by decide))))
 refine jF3 511116 5111191117000000060200000016810 (fun h73=>?_) fun h73=>?_
 ·refine jR (jtr (jrt (hv:=nxE (k:=2) (by rw [hN,if_neg (by omega),if_pos (by rw [List.length_drop];omega)]) (by decide))))
 refine jR (jrt (hv:=nxO (by rw [hN,if_neg (by omega),if_neg (by rw [List.length_drop];omega)]) (by rw [ht]) (by simp only [List.length_drop,List.length_take];omega) (by simp only [List.length_drop];omega)))
end
section
theorem loopW_err {rec:Nat→List UInt8→Nat×Nat} {set:Bool} {lv:Nat}:∀ {fuel:Nat} {b last:List UInt8} {dp:Nat},(loopW rec set lv fuel b last dp).2≠0→(loopW rec set lv fuel b last dp).1=0
 | 0,b,last,dp,h=>by simp [loopW] at h
 | fuel+1,b,last,dp,h=>by
  unfold loopW at h ⊢
  split
  ·rename_i h1;rw [if_pos h1] at h;exact absurd rfl h
  ·rename_i h1;rw [if_neg h1] at h
   split
   ·rfl
   ·rename_i h2;rw [if_neg h2] at h
    split
    ·rfl
    ·rename_i h3;rw [if_neg h3] at h
     split
     ·rfl
     ·rename_i h4;rw [if_neg h4] at h
      split
      ·rfl
      ·rename_i h5;rw [if_neg h5] at h
       exact loopW_err h
theorem loopW_pos {rec:Nat→List UInt8→Nat×Nat} {set:Bool} {lv:Nat}:∀ {fuel:Nat} {b last:List UInt8} {dp:Nat},1≤dp→(loopW rec set lv fuel b last dp).2=0→1≤(loopW rec set lv fuel b last dp).1
 | 0,b,last,dp,hd,h=>hd
 | fuel+1,b,last,dp,hd,h=>by
  have hn:=nextM_bd b
  unfold loopW at h ⊢
  split
  ·exact hd
  ·rename_i h1;rw [if_neg h1] at h
   split
   ·rename_i h2;rw [if_pos h2] at h;exact absurd h h2
   ·rename_i h2;rw [if_neg h2] at h
    split
    ·rename_i h3;rw [if_pos h3] at h;exact absurd h (by decide)
    ·rename_i h3;rw [if_neg h3] at h
     split
     ·rename_i h4;rw [if_pos h4] at h;exact absurd h h4
     ·rename_i h4;rw [if_neg h4] at h
      split
      ·rename_i h5;rw [if_pos h5] at h;exact absurd h (by decide)
      ·rename_i h5;rw [if_neg h5] at h
       exact loopW_pos (by omega) h
theorem wholeM_pos {lv tag:Nat} {body:List UInt8} (h:(wholeM lv tag body).2=0):1≤(wholeM lv tag body).1:=by
 match lv with
 | 0=>simp [wholeM]
 | lv+1 =>
  unfold wholeM at h ⊢
  split
  ·simp
  ·rename_i h1;rw [if_neg h1] at h
   exact loopW_pos (Nat.le_refl _) h
def allW (lv:Nat) (set:Bool) (body:List UInt8):Nat×Nat:=loopW (wholeM lv) set (lv+1) body.length body [] 1
theorem take_toM {b:List UInt8} (h:(nextM b).e=0):toM b=b.length-(nextM b).rest.length:=by unfold toM;rw [if_pos h]
theorem nextM_cut {b:List UInt8} (h:(nextM b).e=0):(nextM b).body=(b.take (toM b)).drop (fromM b)∧(nextM b).rest=b.drop (toM b)∧fromM b≤toM b∧toM b≤b.length:=by
 obtain ⟨n,k,hk,hr,hn,hkl,hb⟩:∃ n k,k≤b.length∧(nextM b).rest=(b.drop k).drop n∧n≤b.length-k∧k≤b.length∧(nextM b).body=(b.drop k).take n:=by
  have hm:∀ c:List UInt8,(measM c).e=0→∃ k,k≤c.length∧(measM c).rest=c.drop k:=by
   intro c
   unfold measM
   split
   ·intro h;exact absurd h (by decide)
   ·dsimp only
    split
    ·exact fun _=>⟨1,by omega,rfl⟩
    ·split
     ·intro h;exact absurd h (by decide)
     ·split
      ·intro h;exact absurd h (by decide)
      ·split
       ·intro h;exact absurd h (by decide)
       ·rename_i h1 h2 h3 h4 h5
        rw [List.length_drop] at h4
        exact fun _=>⟨1+((c.getD 0 0).toNat-128),by omega,by dsimp only;rw [List.drop_drop]⟩
  unfold nextM at h ⊢
  split
  ·rename_i h1;rw [if_pos h1] at h;exact absurd h (by decide)
  ·rename_i h1;rw [if_neg h1] at h
   split
   ·rename_i h2;rw [if_pos h2] at h;exact absurd h (by decide)
   ·rename_i h2;rw [if_neg h2] at h
    dsimp only at h ⊢
    split
    ·rename_i h3;rw [if_pos h3] at h;exact absurd h h3
    ·rename_i h3;rw [if_neg h3] at h
     split
     ·rename_i h4;rw [if_pos h4] at h;exact absurd h (by decide)
     ·rename_i h4;rw [if_neg h4] at h
      split
      ·rename_i h5;rw [if_pos h5] at h;exact absurd h (by decide)
      ·rename_i h5
       obtain ⟨k,hk,hr⟩:=hm (b.drop 1) (by omega)
       rw [List.length_drop] at hk
       rw [hr,List.length_drop,List.length_drop] at h5
       exact ⟨(measM (b.drop 1)).n,1+k,by omega,by rw [hr,List.drop_drop],by omega,by omega,by rw [hr,List.drop_drop]⟩
 have e1:toM b=k+n:=by
  rw [take_toM h,hr,List.length_drop,List.length_drop]
  omega
 have e2:fromM b=k:=by
  unfold fromM
  rw [if_pos h,hb,hr,List.length_take,List.length_drop,List.length_drop]
  omega
 rw [e1,e2,hb,hr]
 refine ⟨?_,by rw [List.drop_drop],by omega,by omega⟩
 rw [List.drop_take]
 congr 1
 omega

theorem wholeM_not {lv tag:Nat} {body:List UInt8} (h:madeM tag=false):wholeM lv tag body=(1,0):=by
 match lv with
 | 0=>rfl
 | lv+1=>unfold wholeM;rw [if_pos h]
theorem rwhole_ac {gs:List Nat}:∀ (lv:Nat) (set:Bool) (body:List UInt8),lv≤16→body.length≤1000000→ACp gs Tryz.prog 124 [bsC body,.c (.int .i64 (lv:Nat)),.c (.bool set)] (.tup 2 (fl [.c (.int .i64 ((allW lv set body).1-1:Nat)),.c (.int .i64 (allW lv set body).2)])):=by
 intro lv
 induction lv using Nat.strongRecOn with
 | _ lv ih =>
 intro set body hlv hbody
 have ih':1≤lv→∀ (tag:Nat) (body:List UInt8),madeM tag=true→body.length≤1000000→ACp gs Tryz.prog 124 [bsC body,.c (.int .i64 ((lv:Int)-1)),.c (.bool (decide (tag=49)))] (.tup 2 (fl [.c (.int .i64 ((wholeM lv tag body).1-1:Nat)),.c (.int .i64 (wholeM lv tag body).2)])):=fun h tag body hm hb=>by
  have:=ih (lv-1) (by omega) (decide (tag=49)) body (by omega) hb
  have e:wholeM lv tag body=allW (lv-1) (decide (tag=49)) body:=by
   obtain ⟨m,rfl⟩:∃ m,lv=m+1:=⟨lv-1,by omega⟩
   unfold wholeM allW
   rw [if_neg (by rw [hm];exact Bool.noConfusion)]
   rfl
  rw [e,show (lv:Int)-1=((lv-1:Nat):Int) by omega]
  exact this
 have hR:∀ t b,(wholeM lv t b).1≤lv+1∧(wholeM lv t b).2≤7:=fun t b=>wholeM_bd lv t b
 refine jF5 65165116 73 Tryz.func124 fun al w0 F0 St0=>?_;refine jF6 20751 0 1 zr5 fun p1=>?_;refine jE (freeze 0 rfl) ?_;refine jE (thaw 9 (fun i _=>byF [] i) rfl rfl (by omega) (fun a b ha hb=>absurd ha (Nat.not_lt_zero a))) ?_;refine jE (pick_ent (H':=[]) [] (by decide) rfl) ?_
 refine jlp (α:=WS) [0,0,6,16,18,71] (fun x=>[(0,bsC x.b),(8,.c (.int .i64 ((x.dp-1:Nat):Int))),(9,bsC x.last)]) (fun _=>[]) (fun x=>1≤x.dp∧x.b.length≤x.f∧x.b.length≤1000000∧x.dp≤lv+2∧loopW (wholeM lv) set (lv+1) x.f x.b x.last x.dp=allW lv set body) (fun x=>x.f) (⟨body.length,body,[],1⟩) (h0:=⟨Nat.le_refl _,Nat.le_refl _,hbody,by show 1≤lv+2;omega,rfl⟩) (hr:=?_)
 rintro x ⟨hd1,hxf,hxb',hdp,hw⟩
 have hxb:x.b.length≤10000000:=by omega
 have hnb:=nextM_bd x.b
 refine jU 523167 ?_;refine jF3 1620810 800070005111684000200020006000 (fun h97=>?_) fun h97=>?_
 rotate_left
 ·obtain hnil:x.b=[]:=List.eq_nil_of_length_eq_zero (by omega)
  rw [hnil,loopW_nil] at hw
  rw [← hw]
  exact cZ
 refine jF1 52167511119009009009001 (rnext_ac x.b hxb) ?_;refine jF3 800030005000300050003000700051116 7810 (fun h99=>?_) fun h99=>?_
 ·rw [← hw,loopW_step _ _ _ _ _ _ _ (by omega) hxf,if_pos (by omega)]
  exact cZ
 have he:¬(nextM x.b).e≠0:=by omega
 have hcut:=nextM_cut (b:=x.b) (by omega)
 have htm:=take_toM (b:=x.b) (by omega)
 refine jU 5216 ?_;refine jF3 80003000500030005000300070005116 810 (fun h102=>?_) fun h102=>?_
 ·rw [← hw,loopW_step _ _ _ _ _ _ _ (by omega) hxf,if_neg he,if_pos (by omega)]
  exact cZ
 have hW:=hR (nextM x.b).tag (nextM x.b).body
 refine jU 167516 ?_;refine jF1 5 (rmade_ac _) ?_;refine jF3 1116 77810 (fun h106=>?_) fun h106=>?_
 rotate_left
 ·have hw0:¬(wholeM lv (nextM x.b).tag (nextM x.b).body).2≠0:=by (rw [wholeM_not (decide_eq_false h106)];decide)
  have hw1:=wholeM_pos (Classical.not_not.1 hw0)
  refine jE (weaken 14 (.c (.int .i64 ((wholeM lv (nextM x.b).tag (nextM x.b).body).1:Nat))) (cI (by (rw [wholeM_not (decide_eq_false h106)];rfl)))) ?_;refine jcd (oN 0 10) ?_;refine jU 7070 ?_;refine jysp 53 (fun g113=>?_) fun g113=>?_
  rotate_left
  ·refine jU 7810300880300000600600600600600600600 ?_
   have hset:¬(set=true∧Op.bytesLess (x.b.take (x.b.length-(nextM x.b).rest.length)) x.last=true):=by
    rintro ⟨h1,h2⟩
    rw [← htm] at h2
    (rw [h1] at g113;exact absurd g113 (by decide))
   refine jU 52116 ?_;refine jF3 1120051900000001168511200 112005190000000116810 (fun h116=>?_) fun h116=>?_
   rotate_left
   ·refine jq jrsf ?_;refine jU 840051 ?_
    refine jlend (⟨x.f-1,(nextM x.b).rest,x.b.take (x.b.length-(nextM x.b).rest.length),max x.dp ((wholeM lv (nextM x.b).tag (nextM x.b).body).1+1)⟩) (h1:=?_) (h2:=?_) (h5:=by exact .cons (CEnt.bs hcut.2.1.symm) (.cons (cI (by dsimp only;omega)) (.cons (CEnt.bs (by rw [htm])) .nil)))
    ·exact ⟨by dsimp only;omega,by dsimp only;omega,by dsimp only;omega,by dsimp only;omega,by
      dsimp only
      rw [← hw,loopW_step _ _ _ _ _ _ _ (by omega) hxf,if_neg he,if_neg (by omega),if_neg hw0,if_neg hset]⟩
    ·dsimp only
     omega
   refine jq jrsf ?_;refine jU 840051 ?_
   refine jlend (⟨x.f-1,(nextM x.b).rest,x.b.take (x.b.length-(nextM x.b).rest.length),max x.dp ((wholeM lv (nextM x.b).tag (nextM x.b).body).1+1)⟩) (h1:=?_) (h2:=?_) (h5:=by exact .cons (CEnt.bs hcut.2.1.symm) (.cons (cI (by dsimp only;omega)) (.cons (CEnt.bs (by rw [htm])) .nil)))
   ·exact ⟨by dsimp only;omega,by dsimp only;omega,by dsimp only;omega,by dsimp only;omega,by
     dsimp only
     rw [← hw,loopW_step _ _ _ _ _ _ _ (by omega) hxf,if_neg he,if_neg (by omega),if_neg hw0,if_neg hset]⟩
   ·dsimp only
    omega
  refine jU 7070 ?_;refine jyq jrst ?_;refine jU 300000007030000000 ?_;refine jyq jrcs ?_;refine jU 8803000000 ?_;refine jF3 80003000500030005000300070005116 7810 (fun h113=>?_) fun h113=>?_
  ·rw [← hw,loopW_step _ _ _ _ _ _ _ (by omega) hxf,if_neg he,if_neg (by omega),if_neg hw0,if_pos ⟨by assumption,by rw [← htm];simpa using h113⟩]
   exact cZ
  have hset:¬(set=true∧Op.bytesLess (x.b.take (x.b.length-(nextM x.b).rest.length)) x.last=true):=by
   rintro ⟨h1,h2⟩
   rw [← htm] at h2
   (rw [h2] at h113;exact absurd h113 (by decide))
  refine jU 52116 ?_;refine jF3 1120051900000001168511200 112005190000000116810 (fun h116=>?_) fun h116=>?_
  rotate_left
  ·refine jq jrsf ?_;refine jU 840051 ?_
   refine jlend (⟨x.f-1,(nextM x.b).rest,x.b.take (x.b.length-(nextM x.b).rest.length),max x.dp ((wholeM lv (nextM x.b).tag (nextM x.b).body).1+1)⟩) (h1:=?_) (h2:=?_) (h5:=by exact .cons (CEnt.bs hcut.2.1.symm) (.cons (cI (by dsimp only;omega)) (.cons (CEnt.bs (by rw [htm])) .nil)))
   ·exact ⟨by dsimp only;omega,by dsimp only;omega,by dsimp only;omega,by dsimp only;omega,by
     dsimp only
     rw [← hw,loopW_step _ _ _ _ _ _ _ (by omega) hxf,if_neg he,if_neg (by omega),if_neg hw0,if_neg hset]⟩
   ·dsimp only
    omega
  refine jq jrsf ?_;refine jU 840051 ?_
  refine jlend (⟨x.f-1,(nextM x.b).rest,x.b.take (x.b.length-(nextM x.b).rest.length),max x.dp ((wholeM lv (nextM x.b).tag (nextM x.b).body).1+1)⟩) (h1:=?_) (h2:=?_) (h5:=by exact .cons (CEnt.bs hcut.2.1.symm) (.cons (cI (by dsimp only;omega)) (.cons (CEnt.bs (by rw [htm])) .nil)))
  ·exact ⟨by dsimp only;omega,by dsimp only;omega,by dsimp only;omega,by dsimp only;omega,by
    dsimp only
    rw [← hw,loopW_step _ _ _ _ _ _ _ (by omega) hxf,if_neg he,if_neg (by omega),if_neg hw0,if_neg hset]⟩
  ·dsimp only
   omega
 refine jq jrsb ?_;refine jU 2191 ?_
 refine jqe (jecP (ih' (by omega) (nextM x.b).tag (nextM x.b).body (decide_eq_true h106) (by omega)) ?_ (ho:=rfl) (he:=(.cons (se rfl (CEnt.bs hcut.1.symm)) (.cons (se rfl cZ) (.cons (se rfl (cB (decide_eq_decide.2 (by omega)))) .nil)))))
 refine jU 521675119009001 ?_;refine jF3 8000300050003000500030003000700051116 7785191200810 (fun h108=>?_) fun h108=>?_
 ·rw [← hw,loopW_step _ _ _ _ _ _ _ (by omega) hxf,if_neg he,if_neg (by omega),if_pos (by omega)]
  exact cZ
 have hw0:¬(wholeM lv (nextM x.b).tag (nextM x.b).body).2≠0:=by omega
 have hw1:=wholeM_pos (Classical.not_not.1 hw0)
 refine jE (weaken 14 (.c (.int .i64 ((wholeM lv (nextM x.b).tag (nextM x.b).body).1:Nat))) (cI (by omega))) ?_;refine jcd (oN 0 10) ?_;refine jU 7070 ?_;refine jysp 53 (fun g113=>?_) fun g113=>?_
 rotate_left
 ·refine jU 7810300880300000600600600600600600600 ?_
  have hset:¬(set=true∧Op.bytesLess (x.b.take (x.b.length-(nextM x.b).rest.length)) x.last=true):=by
   rintro ⟨h1,h2⟩
   rw [← htm] at h2
   (rw [h1] at g113;exact absurd g113 (by decide))
  refine jU 52116 ?_;refine jF3 1120051900000001168511200 112005190000000116810 (fun h116=>?_) fun h116=>?_
  rotate_left
  ·refine jq jrsf ?_;refine jU 840051 ?_
   refine jlend (⟨x.f-1,(nextM x.b).rest,x.b.take (x.b.length-(nextM x.b).rest.length),max x.dp ((wholeM lv (nextM x.b).tag (nextM x.b).body).1+1)⟩) (h1:=?_) (h2:=?_) (h5:=by exact .cons (CEnt.bs hcut.2.1.symm) (.cons (cI (by dsimp only;omega)) (.cons (CEnt.bs (by rw [htm])) .nil)))
   ·exact ⟨by dsimp only;omega,by dsimp only;omega,by dsimp only;omega,by dsimp only;omega,by
     dsimp only
     rw [← hw,loopW_step _ _ _ _ _ _ _ (by omega) hxf,if_neg he,if_neg (by omega),if_neg hw0,if_neg hset]⟩
   ·dsimp only
    omega
  refine jq jrsf ?_;refine jU 840051 ?_
  refine jlend (⟨x.f-1,(nextM x.b).rest,x.b.take (x.b.length-(nextM x.b).rest.length),max x.dp ((wholeM lv (nextM x.b).tag (nextM x.b).body).1+1)⟩) (h1:=?_) (h2:=?_) (h5:=by exact .cons (CEnt.bs hcut.2.1.symm) (.cons (cI (by dsimp only;omega)) (.cons (CEnt.bs (by rw [htm])) .nil)))
  ·exact ⟨by dsimp only;omega,by dsimp only;omega,by dsimp only;omega,by dsimp only;omega,by
    dsimp only
    rw [← hw,loopW_step _ _ _ _ _ _ _ (by omega) hxf,if_neg he,if_neg (by omega),if_neg hw0,if_neg hset]⟩
  ·dsimp only
   omega
 refine jU 7070 ?_;refine jyq jrst ?_;refine jU 300000007030000000 ?_;refine jyq jrcs ?_;refine jU 8803000000 ?_;refine jF3 80003000500030005000300070005116 7810 (fun h113=>?_) fun h113=>?_
 ·rw [← hw,loopW_step _ _ _ _ _ _ _ (by omega) hxf,if_neg he,if_neg (by omega),if_neg hw0,if_pos ⟨by assumption,by rw [← htm];simpa using h113⟩]
  exact cZ
 have hset:¬(set=true∧Op.bytesLess (x.b.take (x.b.length-(nextM x.b).rest.length)) x.last=true):=by
  rintro ⟨h1,h2⟩
  rw [← htm] at h2
  (rw [h2] at h113;exact absurd h113 (by decide))
 refine jU 52116 ?_;refine jF3 1120051900000001168511200 112005190000000116810 (fun h116=>?_) fun h116=>?_
 rotate_left
 ·refine jq jrsf ?_;refine jU 840051 ?_
  refine jlend (⟨x.f-1,(nextM x.b).rest,x.b.take (x.b.length-(nextM x.b).rest.length),max x.dp ((wholeM lv (nextM x.b).tag (nextM x.b).body).1+1)⟩) (h1:=?_) (h2:=?_) (h5:=by exact .cons (CEnt.bs hcut.2.1.symm) (.cons (cI (by dsimp only;omega)) (.cons (CEnt.bs (by rw [htm])) .nil)))
  ·exact ⟨by dsimp only;omega,by dsimp only;omega,by dsimp only;omega,by dsimp only;omega,by
    dsimp only
    rw [← hw,loopW_step _ _ _ _ _ _ _ (by omega) hxf,if_neg he,if_neg (by omega),if_neg hw0,if_neg hset]⟩
  ·dsimp only
   omega
 refine jq jrsf ?_;refine jU 840051 ?_
 refine jlend (⟨x.f-1,(nextM x.b).rest,x.b.take (x.b.length-(nextM x.b).rest.length),max x.dp ((wholeM lv (nextM x.b).tag (nextM x.b).body).1+1)⟩) (h1:=?_) (h2:=?_) (h5:=by exact .cons (CEnt.bs hcut.2.1.symm) (.cons (cI (by dsimp only;omega)) (.cons (CEnt.bs (by rw [htm])) .nil)))
 ·exact ⟨by dsimp only;omega,by dsimp only;omega,by dsimp only;omega,by dsimp only;omega,by
   dsimp only
   rw [← hw,loopW_step _ _ _ _ _ _ _ (by omega) hxf,if_neg he,if_neg (by omega),if_neg hw0,if_neg hset]⟩
 ·dsimp only
  omega
theorem allW_one {b:List UInt8} (h:(nextM b).e=0) (hr:(nextM b).rest=[]):((allW 16 false b).1-1,(allW 16 false b).2)=wholeM 16 (nextM b).tag (nextM b).body:=by
 have hb:b≠[]:=by rintro rfl;exact absurd h (by decide)
 have hl:0<b.length:=List.length_pos_iff.2 hb
 unfold allW
 rw [loopW_step _ _ _ _ _ _ _ hl (Nat.le_refl _),if_neg (by omega),if_neg (by decide)]
 by_cases hw:(wholeM 16 (nextM b).tag (nextM b).body).2=0
 ·have:=wholeM_pos hw
  rw [if_neg (by omega),if_neg (by simp),hr,loopW_nil]
  refine Prod.ext ?_ hw.symm
  show max 1 _-1=_
  omega
 ·rw [if_pos hw]
  refine Prod.ext ?_ rfl
  show 0-1=_
  have:(wholeM 16 (nextM b).tag (nextM b).body).1=0:=by
   unfold wholeM at hw ⊢
   split
   ·rename_i h1;rw [if_pos h1] at hw;exact absurd rfl hw
   ·rename_i h1;rw [if_neg h1] at hw;exact loopW_err hw
  omega
theorem rcheck_ac {gs:List Nat} (b:List UInt8) (hb:b.length≤1000000):ACp gs Tryz.prog 92 [bsC b] (.tup 2 (fl [.c (.int .i64 (depthM b).1),.c (.int .i64 (depthM b).2)])):=by
 have hnb:=nextM_bd b
 refine jF5 5231675116 29 Tryz.func92 fun al w0 F0 St0=>?_;refine jF3 8000300070005116 16810 (fun h127=>?_) fun h127=>?_
 ·unfold depthM
  rw [if_pos (by omega)]
  exact cZ
 refine jF1 52167511119009009009001 (rnext_ac b (by omega)) ?_;refine jF3 80003000700051116 5231167810 (fun h131=>?_) fun h131=>?_
 ·unfold depthM
  rw [if_neg (by omega),if_pos (by omega)]
  exact cZ
 refine jF3 8000300070005116 16810 (fun h134=>?_) fun h134=>?_
 ·have htm:=take_toM (b:=b) (by omega)
  unfold depthM
  rw [if_neg (by omega),if_neg (by omega),if_pos (by omega)]
  exact cZ
 refine jF1 80007000511900900 (rwhole_ac 16 false b (by omega) hb) ?_
 have htm:=take_toM (b:=b) (by omega)
 have hr:(nextM b).rest=[]:=List.eq_nil_of_length_eq_zero (by omega)
 have:=allW_one (b:=b) (by omega) hr
 have hd:depthM b=((allW 16 false b).1-1,(allW 16 false b).2):=by
  unfold depthM
  rw [if_neg (by omega),if_neg (by omega),if_neg (by omega),this]
 rw [hd]
 exact cZ
end
section
theorem isNaN8_run (x:Int) (w:World):Calls Tryz.prog 197 #[.int .u8 x] w fun e w'=>e=.returned (.bool false)∧w'=w:=by
 go_enter Tryz.func197,Tryz.ntmps197
 go_wp2
 go_ret
 exact ⟨rfl,rfl⟩
set_option maxHeartbeats 1000000 in
theorem cmp8_run (a b:UInt8) (w:World):Calls Tryz.prog 183 #[.int .u8 (a.toNat:Nat),.int .u8 (b.toNat:Nat)] w fun e w'=>e=.returned (.int .i64 (cmp8 a b))∧w'=w:=by
 rcases Nat.lt_trichotomy a.toNat b.toNat with h|h|h
 ·have HF:Hid (cmp8 a b=-1):=by unfold cmp8;rw [if_pos h];rfl
  have h1:decide (((a.toNat:Nat):Int)<(b.toNat:Nat))=true:=by simp;omega
  go_enter Tryz.func183,Tryz.ntmps183
  go_wp2_with (go_at_call 197;refine (isNaN8_run _ _).mono ?_;rintro e w' ⟨rfl,rfl⟩)
  go_ret
  exact ⟨by rw [HF.out];rfl,rfl⟩
 ·have HF:Hid (cmp8 a b=0):=by unfold cmp8;rw [if_neg (by omega),if_neg (by omega)];rfl
  have h1:decide (((a.toNat:Nat):Int)<(b.toNat:Nat))=false:=by simp;omega
  have h2:decide (((b.toNat:Nat):Int)<(a.toNat:Nat))=false:=by simp;omega
  go_enter Tryz.func183,Tryz.ntmps183
  go_wp2_with (go_at_call 197;refine (isNaN8_run _ _).mono ?_;rintro e w' ⟨rfl,rfl⟩)
  go_ret
  exact ⟨by rw [HF.out];rfl,rfl⟩
 ·have HF:Hid (cmp8 a b=1):=by unfold cmp8;rw [if_neg (by omega),if_pos h];rfl
  have h1:decide (((a.toNat:Nat):Int)<(b.toNat:Nat))=false:=by simp;omega
  have h2:decide (((b.toNat:Nat):Int)<(a.toNat:Nat))=true:=by simp;omega
  go_enter Tryz.func183,Tryz.ntmps183
  go_wp2_with (go_at_call 197;refine (isNaN8_run _ _).mono ?_;rintro e w' ⟨rfl,rfl⟩)
  go_ret
  exact ⟨by rw [HF.out];rfl,rfl⟩
theorem bs_cell {w:World} {ao:Option Addr} {n cap:Nat} {l:List UInt8} (h:Bs w (.slice ao n cap) l) {k:Nat} (hk:k<l.length):∃ b o,ao=some ⟨b,o,none⟩∧w.cell? ⟨b,o+k,none⟩=some (.int .u8 (l.getD k 0).toNat):=by
 obtain ⟨b,o,cap',e,h1,h2,h3⟩:=h.cons (by omega)
 injection e with e1 e2 e3
 exact ⟨b,o,e1,h3 k hk⟩
set_option maxHeartbeats 2000000 in
theorem compare8_run {w:World} {v1 v2:Value} {l r:List UInt8} (h1:Bs w v1 l) (h2:Bs w v2 r):Calls Tryz.prog 166 #[v1,v2] w fun e w'=>e=.returned (.int .i64 (cmpL l r))∧w'=w:=by
 obtain ⟨ao1,cap1,rfl,a1,a2,-,-⟩:=id h1
 obtain ⟨ao2,cap2,rfl,b1,b2,-,-⟩:=id h2
 have H1:=Lib.hid h1
 have H2:=Lib.hid h2
 clear h1 h2
 have L1:(l.length:Int)≤9223372036854775807:=by omega
 have A1:=Lib.hid a1;have A2:=Lib.hid a2;have B1:=Lib.hid b1;have B2:=Lib.hid b2
 clear a1 a2 b1 b2
 go_enter Tryz.func166,Tryz.ntmps166
 go_wp2
 go_loopw [11] (fun i wr=>∃ k:Nat,Hid (k≤l.length∧k≤r.length∧cmpL (l.drop k) (r.drop k)=cmpL l r)∧i=.int .i64 k∧wr=w) (fun i _=>l.length-(intOf i).toNat)
 case atStart=>exact ⟨0,⟨Nat.zero_le _,Nat.zero_le _,rfl⟩,rfl,rfl⟩
 case round =>
  obtain ⟨k,HK,rfl,rfl⟩:=hrel
  by_cases hk:k<l.length
  ·have q1:decide ((k:Int)<(l.length:Int))=true:=by simp;omega
   obtain ⟨p1,o1,rfl,c1⟩:=bs_cell H1.out hk
   by_cases hr:k<r.length
   ·have q2:decide ((r.length:Int)≤(k:Int))=false:=by simp;omega
    obtain ⟨p2,o2,rfl,c2⟩:=bs_cell H2.out hr
    have HS:=Lib.hid (cmpL_drop (l:=l) (r:=r) (i:=k) hk hr)
    have i1:(0:Int)≤(k:Int):=by omega
    have i2:(k:Int)<(l.length:Int):=by omega
    have i3:(k:Int)<(r.length:Int):=by omega
    generalize l.getD k 0=x at c1 HS
    generalize r.getD k 0=y at c2 HS
    by_cases hz:cmp8 x y=0
    ·have HZ:=Lib.hid hz
     have q3:(cmp8 x y != 0)=false:=by rw [hz];rfl
     clear hz
     go_wp2_with (go_at_call 183;refine (cmp8_run _ _ _).mono ?_;rintro e w' ⟨rfl,rfl⟩)
     case roundEnd=>exact ⟨⟨k+1,⟨by omega,by omega,by rw [← HK.out.2.2,HS.out,if_neg (fun e=>e HZ.out)]⟩,by simp,trivial⟩,by simp [intOf];omega⟩
    ·have HF:Hid (cmpL l r=cmp8 x y):=by show _=_;rw [← HK.out.2.2,HS.out,if_pos hz]
     have q3:(cmp8 x y != 0)=true:=by simp [hz]
     clear hz
     go_wp2_with (go_at_call 183;refine (cmp8_run _ _ _).mono ?_;rintro e w' ⟨rfl,rfl⟩)
     all_goals (go_ret;exact ⟨by rw [HF.out];rfl,rfl⟩)
   ·have HF:Hid (cmpL l r=1):=by
     show _=_
     rw [← HK.out.2.2,List.drop_eq_nil_of_le (by omega:r.length≤k),List.drop_eq_getElem_cons hk];rfl
    have q2:decide ((r.length:Int)≤(k:Int))=true:=by simp;omega
    have i1:(0:Int)≤(k:Int):=by omega
    have i2:(k:Int)<(l.length:Int):=by omega
    go_wp2
    all_goals (go_ret;exact ⟨by rw [HF.out];rfl,rfl⟩)
  ·have q1:decide ((k:Int)<(l.length:Int))=false:=by simp;omega
   have hkl:k=l.length:=by have:=HK.out.1;omega
   by_cases hr:l.length<r.length
   ·have HF:Hid (cmpL l r=-1):=by
     show _=_
     rw [← HK.out.2.2,hkl,List.drop_length,List.drop_eq_getElem_cons hr];rfl
    have q2:decide ((l.length:Int)<(r.length:Int))=true:=by simp;omega
    go_wp2
    all_goals (go_ret;exact ⟨by rw [HF.out];rfl,rfl⟩)
   ·have HF:Hid (cmpL l r=0):=by
     show _=_
     have e:r.length=l.length:=by have:=HK.out.2.1;omega
     rw [← HK.out.2.2,hkl,List.drop_length,← e,List.drop_length];rfl
    have q2:decide ((l.length:Int)<(r.length:Int))=false:=by simp;omega
    go_wp2
    all_goals (go_ret;exact ⟨by rw [HF.out];rfl,rfl⟩)
end
section
open Go.Sort (SWO PermIn SortedIn putCells putRow mapBlock ahead grow onCells)
def lbF (ls:List (List UInt8)) (j:Nat):CV:=bsC (ls.getD j [])
section
variable {α:Type} [Inhabited α] {enc:α→Value} {w:World} {g n:Nat} {d:Array α} {os:Array Obj}
theorem sortW_other {b:Nat} (hb:b<w.heap.size) (hn:b≠g):(sortWorld enc w g 0 n d os).heap[b]?=w.heap[b]?:=by
 show ((w.heap.modify g (onCells (putCells enc 0 d)))++os)[b]?=_
 rw [Array.getElem?_append_left (by simpa using hb),Array.getElem?_modify,if_neg (fun e=>hn e.symm)]
theorem sortW_at {cur:Array Value} {t:TypeId} {z:Nat×Nat} (h:w.heap[g]?=some (.cells cur t z)):(sortWorld enc w g 0 n d os).heap[g]?=some (.cells (putCells enc 0 d cur) t z):=by
 have hb:g<w.heap.size:=(Array.getElem?_eq_some_iff.1 h).1
 show ((w.heap.modify g (onCells (putCells enc 0 d)))++os)[g]?=_
 rw [Array.getElem?_append_left (by simpa using hb),Array.getElem?_modify,if_pos rfl,h]
 rfl
theorem sortW_size:w.heap.size≤(sortWorld enc w g 0 n d os).heap.size:=by
 show _≤((w.heap.modify g (onCells (putCells enc 0 d)))++os).size
 rw [Array.size_append,Array.size_modify]
 omega
end
theorem row_get {cs:Array Value} {m:Nat} {enc:Fin (m+1)→Value} {d:Array (Fin (m+1))} {i:Nat} (hi:i<d.size) (hc:d.size≤cs.size):(putCells enc 0 d cs).getD i undef=enc d[i]! := by
 have h2:i<(putCells enc 0 d cs).size:=by simp [putCells];omega
 rw [Array.getD_eq_getD_getElem?,Array.getElem?_eq_getElem h2]
 simp [putCells,hi]
theorem sort8_of {gs:List Nat} {P:Program} {fs fc:FuncId}
  (hnone:∀ (p:Option Addr) (cap:Nat) (fv:Value) (w:World),Calls P fs #[.slice p 0 cap,fv] w fun e w'=>e=.returned (.tuple #[])∧w'=w)
  (hsort:∀ (m:Nat) (enc:Fin (m+1)→Value) (h1:OneCell enc) (cf:Fin (m+1)→Fin (m+1)→Int) (hO:SWO (ltOf cf)) (blk cap:Nat) (d:Array (Fin (m+1))) (w:World),CmpLays1 P fc #[] enc cf blk 0 d.size w→Go.Sort.Holds enc w blk 0 d→blk<w.heap.size→d.size<4611686018427387904 →
   Calls P fs #[.slice (some ⟨blk,0,none⟩) d.size cap,.func (.func fc) #[] #[]] w fun e w'=>e=.returned (.tuple #[])∧∃ d' n os,PermIn 0 d.size d d'∧SortedIn (ltOf cf) 0 d.size d'∧w'=sortWorld enc w blk 0 n d' os)
  (hcmp:∀ (w:World) (v1 v2:Value) (l r:List UInt8),Bs w v1 l→Bs w v2 r→Calls P fc #[v1,v2] w fun e w'=>e=.returned (.int .i64 (cmpL l r))∧w'=w)
  (g:Option Nat) (ls:List (List UInt8)) (hl:ls.length≤1000000000):AC gs P fs [(g,.blk ls.length (lbF ls))] [.os 0 g 0 ls.length 1,.c (.func (.func fc) #[] #[])] (fun r H'=>r=.c (.tuple #[])∧H'=[(g,.blk ls.length (lbF (sortL ls)))]):=by
 intro al w St F0 vals he hs hv
 obtain ⟨fp,hp⟩:=he.hp
 have v0:=hv 0
 have v1:vals.getD 1 undef=.func (.func fc) #[] #[]:=hv 1
 have hnil:ls.length=0→sortL ls=ls:=fun h=>by
  have:ls=[]:=List.eq_nil_of_length_eq_zero h
  subst this;simp [sortL]
 have same:ls.length=0→HRel al St w w.heap.size F0 [(g,.blk ls.length (lbF (sortL ls)))]:=fun h=>⟨fp,by rw [hnil h];exact hp⟩
 rw [vals2 hs,v1]
 by_cases hz:ls.length=0
 ·have hx:∃ p cap,vals.getD 0 undef=.slice p 0 cap:=by
   cases g with
   | none=>exact ⟨none,0,v0.2⟩
   | some b=>obtain ⟨cap,h1,_⟩:=v0;exact ⟨_,cap,by rw [h1,hz]⟩
  obtain ⟨p,cap,hx⟩:=hx
  rw [hx]
  refine (hnone p cap _ w).mono ?_
  rintro e w' ⟨rfl,rfl⟩
  exact ⟨_,_,_,St,rfl,⟨rfl,rfl⟩,rfl,Under.refl _ _,fun _ h=>h,fun _ h=>.inl h,he.s3,same hz⟩
 ·cases g with
  | none=>exact absurd v0.1 hz
  | some b =>
   obtain ⟨cap,h1,h2,h3,cur0,t0,z0,h4,h5⟩:=v0
   obtain ⟨hF,cur,t,k1,k2,k3⟩:=hp.rep 0 (some b) _ rfl
   have hF0:F0 b:=by
    rcases (hp.own 0 b ((hF b).2 rfl)).2.2 with h|h
    ·have:=(hp.own 0 b ((hF b).2 rfl)).1;omega
    ·exact h
   have hSt:∀ x,St x→x≠b:=fun x hx e=>(hp.own 0 b ((hF b).2 rfl)).2.1 (e ▸ hx)
   have hb:b<w.heap.size:=(Array.getElem?_eq_some_iff.1 k1).1
   obtain ⟨m,hm⟩:∃ m,ls.length=m+1:=⟨ls.length-1,by omega⟩
   let enc:Fin (m+1)→Value:=fun i=>cur.getD i.val undef
   let d:Array (Fin (m+1)):=Array.ofFn id
   have hd:d.size=ls.length:=by simp [d,hm]
   have hrep:∀ i:Fin (m+1),RepC al St w (bsC (ls.getD i.val [])) (enc i):=fun i=>k3 i.val (by omega)
   have hbs:∀ (w':World),KeepS St w w'→∀ i:Fin (m+1),Bs w' (enc i) (ls.getD i.val []):=fun w' hk i=>bs_of_rep (rep_bs_keep (hrep i) hk)
   have hone:OneCell enc:=fun i=>by
    obtain ⟨ao,cap,e,_⟩:=hbs w (KeepS.refl _ _) i
    rw [e];rfl
   have hkeep:∀ (n:Nat) (d':Array (Fin (m+1))) (os:Array Obj),KeepS St w (sortWorld enc w b 0 n d' os):=fun n d' os x hx=>sortW_other (he.s3 x hx) (hSt x hx)
   have hO:=cmpL_swo (fun i:Fin (m+1)=>ls.getD i.val [])
   have hH:Go.Sort.Holds enc w b 0 d:=fun j hj=>by
    have hj2:j<cur.size:=by omega
    have e1:d[j]! = ⟨j,by omega⟩:=by simp [d,show j<m+1 by omega]
    refine ⟨?_,?_⟩
    ·simp only [World.cell?,k1,Nat.zero_add]
     rw [if_neg (by simp),e1]
     simp [enc,hj2]
    ·simp [World.frozen?,k1]
   have key:=hsort m enc hone (fun x y=>cmpL (ls.getD x.val []) (ls.getD y.val [])) hO b cap d w (fun n os dk hdk x y=>(hcmp _ _ _ _ _ (hbs _ (hkeep n dk os) x) (hbs _ (hkeep n dk os) y)).mono (by rintro e w' ⟨rfl,rfl⟩;exact ⟨rfl,0,#[],by simp [World.drewN]⟩)) hH hb (by omega)
   rw [h1,← hd]
   refine key.mono ?_
   rintro e w' ⟨rfl,d',n,os,hP,hS,rfl⟩
   have hd':d'.size=ls.length:=hP.1.trans hd
   have hms:(d'.toList.map fun i=>ls.getD i.val [])=sortL ls:=by
    refine sortL_of ?_ ?_
    ·have h6:=hP.2.2
     have e1:(d'.extract 0 d.size).toList=d'.toList:=by rw [← hP.1];simp
     have e2:(d.extract 0 d.size).toList=d.toList:=by simp
     rw [e1,e2] at h6
     refine (h6.map _).trans ?_
     have e3:d.toList.map (fun i:Fin (m+1)=>ls.getD i.val [])=ls:=by
      apply List.ext_getElem
      ·simp [d,hm]
      ·intro i h7 h8
       rw [List.getElem_map,Array.getElem_toList]
       have e4:d[i]'(by rw [hd];exact h8)=⟨i,by omega⟩:=by simp only [d,Array.getElem_ofFn];rfl
       rw [e4];simp only [List.getD,List.getElem?_eq_getElem h8,Option.getD_some]
     rw [e3]
    ·rw [List.pairwise_map,List.pairwise_iff_getElem]
     intro i j hi hj hij
     have h7:=hS i j (Nat.zero_le _) hij (by rw [← hP.1];simpa using hj)
     have hi2:i<d'.size:=by simpa using hi
     have hj2:j<d'.size:=by simpa using hj
     rw [getElem!_pos d' i hi2,getElem!_pos d' j hj2] at h7
     unfold ltOf at h7
     simp only [decide_eq_false_iff_not,Int.not_lt] at h7
     have h8:=cmpL_swap (ls.getD (d'[j]).val []) (ls.getD (d'[i]).val [])
     unfold leL
     rw [decide_eq_true_eq]
     simp only [Array.getElem_toList]
     omega
   have hw:=sortW_at (enc:=enc) (n:=n) (d:=d') (os:=os) k1
   have hsz:=sortW_size (enc:=enc) (w:=w) (g:=b) (n:=n) (d:=d') (os:=os)
   have hput:(putCells enc 0 d' cur).size=cur.size:=by simp [putCells]
   refine ⟨_,_,_,St,rfl,⟨rfl,rfl⟩,rfl,⟨rfl,rfl,rfl,hsz,fun x hx hn=>sortW_other hx (fun e=>hn (e ▸ hF0)),fun x cx tx zx hx=>?_⟩,fun _ h=>h,fun _ h=>.inl h,fun x hx=>Nat.lt_of_lt_of_le (he.s3 x hx) hsz,fp,fun i g' r hi=>?_,hp.dis,fun i x hx=>?_,hp.out⟩
   ·by_cases e:x=b
    ·subst e
     rw [k1] at hx
     cases hx
     exact ⟨_,_,hw,hput⟩
    ·exact ⟨cx,zx,(sortW_other (Array.getElem?_eq_some_iff.1 hx).1 e).trans hx,rfl⟩
   ·cases i with
    | zero =>
     cases hi
     refine ⟨hF,_,t,hw,by rw [hput];omega,fun i hi=>?_⟩
     have hi':i<d'.size:=by omega
     rw [row_get hi' (by omega)]
     have e:lbF (sortL ls) i=bsC (ls.getD (d'[i]!).val []):=by
      unfold lbF
      rw [← hms]
      simp [List.getD,hi']
     rw [e]
     exact rep_bs_keep (hrep _) (hkeep n d' os)
    | succ i=>simp at hi
   ·exact ⟨Nat.lt_of_lt_of_le (hp.own i x hx).1 hsz,(hp.own i x hx).2⟩
end
section
theorem rowC_lb:RowC 1 lbF:=fun l l2 j hj=>by
 simp only [lbF,List.getD_eq_getElem?_getD]
 split
 ·rw [List.getElem?_append_left (by omega)]
 ·rw [List.getElem?_append_right (by omega),Nat.mul_one]
theorem lb_thaw {ls:List (List UInt8)}:∀ a b,a<ls.length→b<1→CEnt (lbF ls (0+(a * 1+b))) (bsC (ls.getD a [])):=fun a b ha hb=>CEnt.of_eq (by rw [show 0+(a * 1+b)=a by omega];rfl)
theorem cloneL_ac {gs:List Nat} (l:List (List UInt8)) (hl:l.length≤1000000):AC gs Tryz.prog 164 [] [lbC l] (OwnQ l.length 1 l.length (lbF l)):=by
 refine jF5 167516 8 Tryz.func164 fun al w0 F0 St0=>?_;refine seq_eqNil (wanted_none rfl) rfl rfl rfl Tryz.underlying96 rfl rfl (fun h357=>?_) ?_
 ·refine jU 51690005 ?_;refine jE (own_nil 2 1 (lbF l) rfl) ?_;refine jU 30007000 ?_
  exact end_O 0 (.inl rfl) (res_1 rfl (arv_tmp rfl)) rfl (by omega) (by omega) (fun _=>by omega) (fun j hj=>by omega)
 ·refine jU 68103005 ?_;refine jF6 1 0 1 zr58 fun p1=>?_
  refine jqm (jac 24 ( rowC_lb) (l:=[]) fun p2=>?_)
  refine jU 700051 ?_
  exact end_O 0 (.inl rfl) (res_1 rfl (arv_tmp rfl)) rfl (by simp) (by simp) (fun _=>by simp) (fun j hj=>cZ)
theorem leL_cmp {a b:List UInt8}:leL a b=true↔0≤cmpL b a:=by
 have:=cmpL_swap a b
 unfold leL
 rw [decide_eq_true_eq]
 omega
end
section
abbrev FrG:=(Int×List (List UInt8))×Option Nat
def frD:FrG:=((0,[]),none)
def frF (x:FrG):Nat→CV:=fl [.c (.int .i64 x.1.1),.os 0 x.2 0 x.1.2.length 1]
def kidE (x:FrG):Option Nat×Res:=(x.2,.blk x.1.2.length (lbF x.1.2))
abbrev WZ8 (fr:List (Int×List (List UInt8))):={ z:Nat×Option Nat×Option Nat×List FrG // z.2.2.2.map Prod.fst=fr }
def wrB (s:W8) (io jd:Nat) (go gd:Option Nat):Nat→CV:=fl [.os io go 0 s.fr.length 2,.os jd gd 0 s.d.length 1,.err s.k]
def wrE (s:W8) (z:WZ8 s.fr):List (Option Nat×Res):=[(some z.1.1,.blk 3 (wrB s 1 2 z.1.2.1 z.1.2.2.1)),(z.1.2.1,.blk (s.fr.length * 2) (rowF 2 frF frD z.1.2.2.2.reverse)),(z.1.2.2.1,.blk s.d.length (byF s.d)),bagE (z.1.2.2.2.map kidE)]
def wrO (n:Nat) (s:W8):Option Nat×Res:=objE n (fun z:WZ8 s.fr=>z.1.1) (wrE s)
section
variable {P:Program} {G:Gh} {c:Code} {R:Exit→AS→Prop} {n:Nat} {s:W8} {env:List (Nat×CV)} {b0:Nat→CV} {H:List (Option Nat×Res)}
theorem code_openW (i:Nat) (hi:H[i]?=some (wrO n s)) (h:∀ go gd (zs:List FrG),zs.map Prod.fst=s.fr→ACode P G c ⟨env,b0,H.set i (some n,.blk 3 (wrB s H.length (H.length+1) go gd))++[(go,.blk (s.fr.length * 2) (rowF 2 frF frD zs.reverse)),(gd,.blk s.d.length (byF s.d)),bagE (zs.map kidE)]⟩ R):ACode P G c ⟨env,b0,H⟩ R:=by
 have hlt:=(List.getElem?_eq_some_iff.1 hi).1
 refine code_unpack i hi fun z hz=>?_
 obtain ⟨⟨n',go,gd,zs⟩,hzs⟩:=z
 obtain rfl:n'=n:=hz
 refine jE (weakH i 3 (wrB s H.length (H.length+1) go gd) (n:=3) (g:=some n') (f:=wrB s 1 2 go gd) ?_ (Nat.le_refl _) fun j hj=>?_) ?_
 ·show (H.set i _++_)[i]?=_
  rw [List.getElem?_append_left (by simpa using hlt)]
  simp [hlt]
 ·rcases j with _|_|_|j
  ·exact cO rfl
  ·exact cO rfl
  ·exact cZ
  ·omega
 ·have:=h go gd zs hzs
  rw [← List.set_set (a:=(some n',Res.blk 3 (wrB s 1 2 go gd))),← List.set_append_left _ _ (by simpa using hlt)] at this
  exact this
theorem closeWh (n:Nat) (s:W8) (zs:List FrG) (i jo jd jb:Nat) (hzs:zs.map Prod.fst=s.fr) {go gd:Option Nat} {No Nd:Nat} {f Fo Fd:Nat→CV} (hi:H[i]?=some (some n,.blk 3 f)) (ho:H[jo]?=some (go,.blk No Fo)) (hd:H[jd]?=some (gd,.blk Nd Fd)) (hb:H[jb]?=some (bagE (zs.map kidE))) (hij:[i,jo,jd,jb].Nodup)
  (h0:CEnt (f 0) (.os 1 go 0 s.fr.length 2)) (h1:CEnt (f 1) (.os 1 gd 0 s.d.length 1)) (h2:CEnt (f 2) (.err s.k)) (hNo:s.fr.length * 2≤No) (hFo:∀ a,a<s.fr.length * 2→CEnt (Fo a) (rowF 2 frF frD zs.reverse a)) (hNd:s.d.length≤Nd) (hFd:∀ a,a<s.d.length→CEnt (Fd a) (byF s.d a)) :
  ∀ {al:List Addr} {St:Nat→Prop} {w:World} {base:Nat} {F0:Nat→Prop},HRel al St w base F0 H→HRel al St w base F0 ((((H.set i (wrO n s)).set jo (none,.dead)).set jd (none,.dead)).set jb (none,.dead)):=by
 intro al St w base F0 h
 simp only [List.nodup_cons,List.mem_cons,List.not_mem_nil,or_false,not_or,not_false_iff,List.nodup_nil,and_true] at hij
 obtain ⟨⟨e1,e2,e3⟩,⟨e4,e5⟩,e6⟩:=hij
 have hil:=(List.getElem?_eq_some_iff.1 hi).1
 have hol:=(List.getElem?_eq_some_iff.1 ho).1
 have hdl:=(List.getElem?_eq_some_iff.1 hd).1
 have hbl:=(List.getElem?_eq_some_iff.1 hb).1
 have k1:=h.weak (F:=wrB s 1 2 go gd) hi (Nat.le_refl _) fun a ha=>by
  rcases a with _|_|_|a
  ·exact h0.trans (cO rfl)
  ·exact h1.trans (cO rfl)
  ·exact h2
  ·omega
 have k2:=k1.weak (i:=jo) (F:=rowF 2 frF frD zs.reverse) (by rw [List.getElem?_set_ne e1];exact ho) hNo hFo
 have k3:=k2.weak (i:=jd) (F:=byF s.d) (by rw [List.getElem?_set_ne e4,List.getElem?_set_ne e2];exact hd) hNd hFd
 have k4:=k3.closeN (gd:=fun z:WZ8 s.fr=>z.1.1) (E:=wrE s) ⟨(n,go,gd,zs),hzs⟩ i [jo,jd,jb] (by simp [e1,e2,e3,e4,e5,e6]) (by simp [hil,hol,hdl,hbl]) (by
  have g1:∀ {x},((H.set i x).set jo (go,Res.blk (s.fr.length * 2) (rowF 2 frF frD zs.reverse))).set jd (gd,Res.blk s.d.length (byF s.d))=((H.set i x).set jo (go,Res.blk (s.fr.length * 2) (rowF 2 frF frD zs.reverse))).set jd (gd,Res.blk s.d.length (byF s.d)):=rfl
  simp only [pickL,List.map_cons,List.map_nil,List.getD_eq_getElem?_getD]
  rw [List.getElem?_set_ne (Ne.symm e2),List.getElem?_set_ne (Ne.symm e1),List.getElem?_set_ne (Ne.symm e4),List.getElem?_set_ne e6,List.getElem?_set_ne e5,List.getElem?_set_ne e3,hb]
  simp [hil,hol,hdl,wrE])
 have e:killL ((((H.set i (some n,Res.blk 3 (wrB s 1 2 go gd))).set jo (go,Res.blk (s.fr.length * 2) (rowF 2 frF frD zs.reverse))).set jd (gd,Res.blk s.d.length (byF s.d))).set i (objE n (fun z:WZ8 s.fr=>z.1.1) (wrE s))) [jo,jd,jb]=(((H.set i (wrO n s)).set jo (none,.dead)).set jd (none,.dead)).set jb (none,.dead):=by
  show ((((((H.set i _).set jo _).set jd _).set i _).set jo _).set jd _).set jb _=_
  rw [List.set_comm _ _ (Ne.symm e2),List.set_comm _ _ (Ne.symm e1),List.set_set,List.set_comm _ _ (Ne.symm e4),List.set_set,List.set_set]
  rfl
 rw [← e]
 exact k4
theorem closeW (n:Nat) (s:W8) (zs:List FrG) (i jo jd jb:Nat) (hzs:zs.map Prod.fst=s.fr) {go gd:Option Nat} {No Nd:Nat} {f Fo Fd:Nat→CV} (hi:H[i]?=some (some n,.blk 3 f)) (ho:H[jo]?=some (go,.blk No Fo)) (hd:H[jd]?=some (gd,.blk Nd Fd)) (hb:H[jb]?=some (bagE (zs.map kidE))) (hij:[i,jo,jd,jb].Nodup)
  (h0:CEnt (f 0) (.os 1 go 0 s.fr.length 2)) (h1:CEnt (f 1) (.os 1 gd 0 s.d.length 1)) (h2:CEnt (f 2) (.err s.k)) (hNo:s.fr.length * 2≤No) (hFo:∀ a,a<s.fr.length * 2→CEnt (Fo a) (rowF 2 frF frD zs.reverse a)) (hNd:s.d.length≤Nd) (hFd:∀ a,a<s.d.length→CEnt (Fd a) (byF s.d a)) :
  EntS G ⟨env,b0,H⟩ ⟨env,b0,(((H.set i (wrO n s)).set jo (none,.dead)).set jd (none,.dead)).set jb (none,.dead)⟩:=EntS.hrel (closeWh n s zs i jo jd jb hzs hi ho hd hb hij h0 h1 h2 hNo hFo hNd hFd)
end
end
section
variable {gs:List Nat} [Ok9 gs]

theorem u64_byte (n:Int) (i:Nat) (h:i<8):IntKind.u8.wrap ((n % 18446744073709551616).fdiv (2 ^ (min (8 * (i:Int)).toNat IntKind.u64.bits)))=((byte (sh i n)).toNat:Nat):=by
 rw [IntKind.wrap_u8,byte_toNat]
 have hf:∀ d:Int,0≤d→(n % 18446744073709551616).fdiv d=n % 18446744073709551616 / d:=fun d hd=>Int.fdiv_eq_ediv_of_nonneg _ hd
 rcases i with _|_|_|_|_|_|_|_|i
 ·show (n % 18446744073709551616).fdiv 1 % 256=_;rw [hf _ (by decide)];simp only [sh];omega
 ·show (n % 18446744073709551616).fdiv 256 % 256=_;rw [hf _ (by decide)];simp only [sh];omega
 ·show (n % 18446744073709551616).fdiv 65536 % 256=_;rw [hf _ (by decide)];simp only [sh];omega
 ·show (n % 18446744073709551616).fdiv 16777216 % 256=_;rw [hf _ (by decide)];simp only [sh];omega
 ·show (n % 18446744073709551616).fdiv 4294967296 % 256=_;rw [hf _ (by decide)];simp only [sh];omega
 ·show (n % 18446744073709551616).fdiv 1099511627776 % 256=_;rw [hf _ (by decide)];simp only [sh];omega
 ·show (n % 18446744073709551616).fdiv 281474976710656 % 256=_;rw [hf _ (by decide)];simp only [sh];omega
 ·show (n % 18446744073709551616).fdiv 72057594037927936 % 256=_;rw [hf _ (by decide)];simp only [sh];omega
 ·omega
theorem digs_step {n:Int} {j:Nat} (h:j<8):(digs 8 n).reverse.take j++[byte (sh (7-j) n)]=(digs 8 n).reverse.take (j+1):=by
 have hl:j<(digs 8 n).reverse.length:=by rw [List.length_reverse,digs_length];exact h
 rw [List.take_succ_eq_append_getElem hl,← digs_rev_get n 8 j h]
 simp [List.getD,show j<(digs 8 n).length by rw [digs_length];exact h]
theorem digs_drop (n:Int) (m:Nat):(digs (m+1+1) n).reverse.drop 1=(digs (m+1) n).reverse:=by
 rw [digs_succ (m+1)];simp
set_option maxHeartbeats 1000000 in
theorem rput04_ac {gs:List Nat} (n:Int) (h1:-9223372036854775808≤n) (h2:n≤9223372036854775807):ACp gs Tryz.prog 142 [.c (.int .i64 n)] (bsC (putN n)):=by
 have h7:=stp_seven n h1 h2
 have hd8:(digs 8 n).reverse.length=8:=by rw [List.length_reverse,digs_length]
 refine jF5 6516 52 Tryz.func142 fun al w0 F0 St0=>?_;refine jF6 1651 0 1 zr5 fun p1=>?_;refine jq (rd_convI rfl rfl Tryz.underlying3 Tryz.underlying208 ((n % 18446744073709551616)) ((by rw [IntKind.wrap_u64]))) ?_;refine jU 20516751 ?_
 refine jlp (α:=Nat×Option Nat) [3,3,5,5,9,21] (fun (j,g)=>[(5,.c (.int .i64 (7-(j:Int)))),(3,.os 0 g 0 ((digs 8 n).reverse.take j).length 1)]) (fun (j,g)=>[(g,.blk ((digs 8 n).reverse.take j).length (byF ((digs 8 n).reverse.take j)))]) (fun (j,g)=>j≤8) (fun (j,g)=>8-j) (0,p1) (hH:=.blk rfl (fun j hj=>absurd hj (Nat.not_lt_zero j)) .nil) (hr:=?_)
 rintro ⟨j,g⟩ (hj:j≤8)
 have htl:((digs 8 n).reverse.take j).length=j:=by rw [List.length_take];omega
 refine jU 52167 ?_;refine jF3 207810 20784000200020006000 (fun h10=>?_) fun h10=>?_
 ·obtain ⟨q,hqj,hq8⟩:∃ q:Nat,7-j=q∧(7:Int)-(j:Int)=(q:Int):=⟨7-j,rfl,by omega⟩
  refine jE (weaken 5 (.c (.int .i64 (q:Nat))) (cI hq8)) ?_;refine jU 9111200 ?_;refine jq (jrv .i64 .u64) ?_;refine jq (rd_shr rfl rfl rfl (by (omega)) _ rfl) ?_;refine jq (rd_convI rfl rfl Tryz.underlying208 Tryz.underlying5 ((((byte (sh q n)).toNat:Nat):Int)) (u64_byte n q (by omega))) ?_
  refine jqe (jebl 1 1 zr5 fun p2=>?_)
  refine jqm (jab (l2:=[byte (sh q n)]) fun p3=>?_)
  refine jU 85191200840051 ?_
  exact jlend (j+1,p3) (h5:=by exact .cons (cI (by omega)) (.cons (cO (by rw [← digs_step (by omega),hqj])) .nil)) (h7:=by exact .blk (by rw [← digs_step (by omega),hqj]) (fun i hi=>CEnt.of_eq (by rw [← digs_step (by omega),hqj])) .nil)
 have hj8:j=8:=by omega
 refine jE (freeze 0 rfl) ?_;refine jE (thawB 3 ((digs 8 n).reverse.take j) rfl rfl (by rfl) rfl) ?_;refine jE (weaken 3 (bsC (digs (7+1) n).reverse) (CEnt.bs (by rw [hj8,List.take_of_length_le (by omega)]))) ?_;refine jE (pick_ent (H':=[]) [] (by decide) rfl) ?_
 refine jlp (α:=Nat) [3,3,22,50] (fun k=>[(3,bsC (digs (k+1) n).reverse)]) (fun _=>[]) (fun k=>k≤7∧stp k n=true) (fun k=>k) 7 (h0:=⟨Nat.le_refl _,h7⟩) (hr:=?_)
 rintro k ⟨hk,hst⟩
 have hkl:(digs (k+1) n).reverse.length=k+1:=by rw [List.length_reverse,digs_length]
 have hid:=fun h=>idle_of (l:=(digs (k+1) n).reverse) h
 refine jU 123167 ?_;refine jF4 126020000001 8400020002000600030055004444444444444444444444 25 (fun g13=>?_) fun g13=>?_
 rotate_left
 ·have hno:∀ j,j<k→stp j n=false:=fun j hj=>by
   cases e:stp j n with
   | false=>rfl
   | true =>
    exfalso
    obtain ⟨m,rfl⟩:∃ m,k=m+1:=⟨k-1,by omega⟩
    have h3:=stp_mono' n j m (by omega) e
    rw [← idle_digs n m hst,hid (by omega)] at h3
    omega
  refine jU 5116 ?_
  refine jR (jrt (hv:=CEnt.bs (putN_of h1 h2 ⟨hk,hst,hno⟩)))
 refine jF4 1 12602000000115004444 30 (fun g13_2=>?_) fun g13_2=>?_
 rotate_left
 ·refine jF4 1 8400020002000600030051000000005005004444 41 (fun g13_3=>?_) fun g13_3=>?_
  rotate_left
  ·have hno:∀ j,j<k→stp j n=false:=fun j hj=>by
    cases e:stp j n with
    | false=>rfl
    | true =>
     exfalso
     obtain ⟨m,rfl⟩:∃ m,k=m+1:=⟨k-1,by omega⟩
     have h3:=stp_mono' n j m (by omega) e
     rw [← idle_digs n m hst,hid (by omega)] at h3
     omega
   refine jU 5116 ?_
   refine jR (jrt (hv:=CEnt.bs (putN_of h1 h2 ⟨hk,hst,hno⟩)))
  refine jq (jri (i:=1)) ?_;refine jU 5100000000500100000000260 ?_;refine jF3 20810 84000200020006000 (fun h13=>?_) fun h13=>?_
  rotate_left
  ·have hno:∀ j,j<k→stp j n=false:=fun j hj=>by
    cases e:stp j n with
    | false=>rfl
    | true =>
     exfalso
     obtain ⟨m,rfl⟩:∃ m,k=m+1:=⟨k-1,by omega⟩
     have h3:=stp_mono' n j m (by omega) e
     rw [← idle_digs n m hst,hid (by omega)] at h3
     omega
   refine jU 5116 ?_
   refine jR (jrt (hv:=CEnt.bs (putN_of h1 h2 ⟨hk,hst,hno⟩)))
  have hi:idle (digs (k+1) n).reverse=true:=(hid (by omega)).2 (by omega)
  have hdr:(digs (k+1) n).reverse.drop 1=(digs (k-1+1) n).reverse:=by
   obtain ⟨m,rfl⟩:∃ m,k=m+1:=⟨k-1,by omega⟩
   exact digs_drop n m
  have hnx:k-1≤7∧stp (k-1) n=true:=by
   obtain ⟨m,rfl⟩:∃ m,k=m+1:=⟨k-1,by omega⟩
   rw [idle_digs n m hst] at hi
   exact ⟨by omega,hi⟩
  have hk1:0<k:=by omega
  refine jU 1200 ?_;refine jq (jrsf (hz1:=(show (1:Int)=((1:Nat):Int) from rfl))) ?_;refine jU 840051 ?_
  exact jlend (k-1) (h1:=hnx) (h5:=by exact .cons (CEnt.bs hdr) .nil)
 refine jq (jri (i:=1)) ?_;refine jU 1100000000260 ?_;refine jF4 20810900051000000001000000004444444444 126020000001 36 (fun g13_3=>?_) fun g13_3=>?_
 ·have hi:idle (digs (k+1) n).reverse=true:=(hid (by omega)).2 (by omega)
  have hdr:(digs (k+1) n).reverse.drop 1=(digs (k-1+1) n).reverse:=by
   obtain ⟨m,rfl⟩:∃ m,k=m+1:=⟨k-1,by omega⟩
   exact digs_drop n m
  have hnx:k-1≤7∧stp (k-1) n=true:=by
   obtain ⟨m,rfl⟩:∃ m,k=m+1:=⟨k-1,by omega⟩
   rw [idle_digs n m hst] at hi
   exact ⟨by omega,hi⟩
  have hk1:0<k:=by omega
  refine jU 1200 ?_;refine jq (jrsf (hz1:=(show (1:Int)=((1:Nat):Int) from rfl))) ?_;refine jU 840051 ?_
  exact jlend (k-1) (h1:=hnx) (h5:=by exact .cons (CEnt.bs hdr) .nil)
 refine jF4 1 8400020002000600030051000000005005004444 41 (fun g13_4=>?_) fun g13_4=>?_
 rotate_left
 ·have hno:∀ j,j<k→stp j n=false:=fun j hj=>by
   cases e:stp j n with
   | false=>rfl
   | true =>
    exfalso
    obtain ⟨m,rfl⟩:∃ m,k=m+1:=⟨k-1,by omega⟩
    have h3:=stp_mono' n j m (by omega) e
    rw [← idle_digs n m hst,hid (by omega)] at h3
    omega
  refine jU 5116 ?_
  refine jR (jrt (hv:=CEnt.bs (putN_of h1 h2 ⟨hk,hst,hno⟩)))
 refine jq (jri (i:=1)) ?_;refine jU 5100000000500100000000260 ?_;refine jF3 20810 84000200020006000 (fun h13=>?_) fun h13=>?_
 rotate_left
 ·have hno:∀ j,j<k→stp j n=false:=fun j hj=>by
   cases e:stp j n with
   | false=>rfl
   | true =>
    exfalso
    obtain ⟨m,rfl⟩:∃ m,k=m+1:=⟨k-1,by omega⟩
    have h3:=stp_mono' n j m (by omega) e
    rw [← idle_digs n m hst,hid (by omega)] at h3
    omega
  refine jU 5116 ?_
  refine jR (jrt (hv:=CEnt.bs (putN_of h1 h2 ⟨hk,hst,hno⟩)))
 have hi:idle (digs (k+1) n).reverse=true:=(hid (by omega)).2 (by omega)
 have hdr:(digs (k+1) n).reverse.drop 1=(digs (k-1+1) n).reverse:=by
  obtain ⟨m,rfl⟩:∃ m,k=m+1:=⟨k-1,by omega⟩
  exact digs_drop n m
 have hnx:k-1≤7∧stp (k-1) n=true:=by
  obtain ⟨m,rfl⟩:∃ m,k=m+1:=⟨k-1,by omega⟩
  rw [idle_digs n m hst] at hi
  exact ⟨by omega,hi⟩
 have hk1:0<k:=by omega
 refine jU 1200 ?_;refine jq (jrsf (hz1:=(show (1:Int)=((1:Nat):Int) from rfl))) ?_;refine jU 840051 ?_
 exact jlend (k-1) (h1:=hnx) (h5:=by exact .cons (CEnt.bs hdr) .nil)
set_option maxHeartbeats 1000000 in
theorem rget04_ac {gs:List Nat} (l:List UInt8):ACp gs Tryz.prog 125 [bsC l] (.tup 2 (fl [.c (.int .i64 (getM l).1),.c (.int .i64 ((getM l).2:Nat))])):=by
 refine ac_len 0 rfl fun hlen=>?_
 have hid:=fun h=>idle_of (l:=l) h
 refine jF5 5231675116 58 Tryz.func125 fun al w0 F0 St0=>?_;refine jF3 8000300070005116 810 (fun h21=>?_) fun h21=>?_
 ·have hb:getM l=(0,2):=by unfold getM;rw [if_pos (by omega)]
  rw [hb];exact cZ
 refine jjn (α:=Unit) [2,3,10,36] (fun _=>[]) (fun _=>[]) (fun _=>l.length≠0∧¬ idle l=true) ?_ ?_
 ·refine jU 12316 ?_;refine jF4 126020000001 81030055004444444444444444444444 13 (fun g24=>?_) fun g24=>?_
  rotate_left
  ·refine jjend () (h1:=?_) (h7:=by exact .nil)
   ·refine ⟨by omega,?_⟩
    by_cases h1:1<l.length
    ·rw [hid h1];omega
    ·rw [idle_short l (by omega)];exact Bool.noConfusion
  refine jF4 1 12602000000115004444 18 (fun g24_2=>?_) fun g24_2=>?_
  rotate_left
  ·refine jF4 1 81030051000000005005004444 29 (fun g24_3=>?_) fun g24_3=>?_
   rotate_left
   ·refine jjend () (h1:=?_) (h7:=by exact .nil)
    ·refine ⟨by omega,?_⟩
     by_cases h1:1<l.length
     ·rw [hid h1];omega
     ·rw [idle_short l (by omega)];exact Bool.noConfusion
   refine jq (jri (i:=1)) ?_;refine jU 5100000000500100000000260 ?_;refine jF3 8000300070005116 810 (fun h24=>?_) fun h24=>?_
   rotate_left
   ·refine jjend () (h1:=?_) (h7:=by exact .nil)
    ·refine ⟨by omega,?_⟩
     by_cases h1:1<l.length
     ·rw [hid h1];omega
     ·rw [idle_short l (by omega)];exact Bool.noConfusion
   have hb:getM l=(0,4):=by unfold getM;rw [if_neg (by omega),if_pos ((hid (by omega)).2 (by omega))]
   rw [hb];exact cZ
  refine jq (jri (i:=1)) ?_;refine jU 1100000000260 ?_;refine jF4 8000300070005116900051000000001000000004444444444 126020000001 24 (fun g24_3=>?_) fun g24_3=>?_
  ·have hb:getM l=(0,4):=by unfold getM;rw [if_neg (by omega),if_pos ((hid (by omega)).2 (by omega))]
   rw [hb];exact cZ
  refine jF4 1 81030051000000005005004444 29 (fun g24_4=>?_) fun g24_4=>?_
  rotate_left
  ·refine jjend () (h1:=?_) (h7:=by exact .nil)
   ·refine ⟨by omega,?_⟩
    by_cases h1:1<l.length
    ·rw [hid h1];omega
    ·rw [idle_short l (by omega)];exact Bool.noConfusion
  refine jq (jri (i:=1)) ?_;refine jU 5100000000500100000000260 ?_;refine jF3 8000300070005116 810 (fun h24=>?_) fun h24=>?_
  rotate_left
  ·refine jjend () (h1:=?_) (h7:=by exact .nil)
   ·refine ⟨by omega,?_⟩
    by_cases h1:1<l.length
    ·rw [hid h1];omega
    ·rw [idle_short l (by omega)];exact Bool.noConfusion
  have hb:getM l=(0,4):=by unfold getM;rw [if_neg (by omega),if_pos ((hid (by omega)).2 (by omega))]
  rw [hb];exact cZ
 rintro u ⟨hl0,hni⟩
 refine jU 523167 ?_;refine jF3 8000300070005116 516810 (fun h27=>?_) fun h27=>?_
 ·have hb:getM l=(0,1):=by unfold getM;rw [if_neg (by omega),if_neg hni,if_pos (by omega)]
  rw [hb];exact cZ
 refine jjn (α:=Unit) [4,4,40,43] (fun _=>[(4,.c (.int .u64 (vk l 0 % 18446744073709551616)))]) (fun _=>[]) (fun _=>True) ?_ ?_
 ·refine jU 5260200000016 ?_;refine jF3 851200 810 (fun h31=>?_) fun h31=>?_
  rotate_left
  ·exact jjend () (h5:=by exact .cons (cI (by unfold vk;rw [if_pos rfl];split <;> omega)) .nil) (h7:=by exact .nil)
  exact jjend () (h5:=by exact .cons (cI (by unfold vk;rw [if_pos rfl];split <;> omega)) .nil) (h7:=by exact .nil)
 rintro u _
 refine jU 20513167 ?_
 refine jlp (α:=Nat) [4,4,6,6,46,55] (fun i=>[(46,.c (.int .i64 (i:Nat))),(4,.c (.int .u64 (vk l i % 18446744073709551616)))]) (fun _=>[]) (fun i=>i≤l.length) (fun i=>l.length-i) 0 (hr:=?_)
 rintro i (hi:i≤l.length)
 refine jU 7526 ?_;refine jF3 120051607006207810 84000200020006000 (fun h34=>?_) fun h34=>?_
 rotate_left
 ·have hil:i=l.length:=by omega
  have hvb:=valS_bd8 l (by omega)
  have hvk:vk l l.length=valS l:=by unfold vk;rw [if_neg (by omega),List.take_length]
  have hb:getM l=(valS l,0):=by unfold getM;rw [if_neg (by omega),if_neg hni,if_neg (by omega)]
  refine jU 16 ?_;refine jq (rd_convI rfl rfl Tryz.underlying208 Tryz.underlying3 ((valS l)) ((by rw [hil,hvk,IntKind.wrap_i64];omega))) ?_;refine jU 80007000511 ?_
  rw [hb];exact cZ
 refine jq (rd_mulW rfl rfl rfl ((IntKind.u64.wrap (vk l i % 18446744073709551616 * 256))) (rfl)) ?_;refine jU 1 ?_;refine jq (rd_convI rfl rfl Tryz.underlying5 Tryz.underlying208 ((((l.getD i 0).toNat:Nat):Int)) (wrap_id (k:=.u64) (by have:=(l.getD i 0).toNat_lt;show _∧_;omega))) ?_;refine jq (rd_addW rfl rfl rfl ((vk l (i+1) % 18446744073709551616)) ((by rw [vk_succ l i (by omega)];exact u64_step _ _))) ?_;refine jU 8519200840051 ?_
 exact jlend (i+1)
end
section
variable {gs:List Nat} [Ok9 gs]

def rowsF (r:List (List (List UInt8))) (j:Nat):CV:=lbC (r.getD j [])
def rwB (s:R8) (jr:Nat) (gr:Option Nat):Nat→CV:=fl [isC s.tags,.os jr gr 0 s.rows.length 1,.c (.int .i64 (s.e:Nat))]
def rwE (s:R8) (z:Nat×Option Nat):List (Option Nat×Res):=[(some z.1,.blk 3 (rwB s 1 z.2)),(z.2,.blk s.rows.length (rowsF s.rows))]
def rwO (n:Nat) (s:R8):Option Nat×Res:=objE n (fun z:Nat×Option Nat=>z.1) (rwE s)
section
variable {P:Program} {G:Gh} {c:Code} {R:Exit→AS→Prop} {n:Nat} {s:R8} {env:List (Nat×CV)} {b0:Nat→CV} {H:List (Option Nat×Res)}
theorem code_openRW (i:Nat) (hi:H[i]?=some (rwO n s)) (h:∀ gr,ACode P G c ⟨env,b0,H.set i (some n,.blk 3 (rwB s H.length gr))++[(gr,.blk s.rows.length (rowsF s.rows))]⟩ R):ACode P G c ⟨env,b0,H⟩ R:=by
 have hlt:=(List.getElem?_eq_some_iff.1 hi).1
 refine code_unpack i hi fun z hz=>?_
 obtain ⟨n',gr⟩:=z
 obtain rfl:n'=n:=hz
 refine jE (weakH i 3 (rwB s H.length gr) (n:=3) (g:=some n') (f:=rwB s 1 gr) ?_ (Nat.le_refl _) fun j hj=>?_) ?_
 ·show (H.set i _++_)[i]?=_
  rw [List.getElem?_append_left (by simpa using hlt)]
  simp [hlt]
 ·rcases j with _|_|_|j
  ·exact cZ
  ·exact cO rfl
  ·exact cZ
  ·omega
 ·have:=h gr
  rw [← List.set_set (a:=(some n',Res.blk 3 (rwB s 1 gr))),← List.set_append_left _ _ (by simpa using hlt)] at this
  exact this
theorem closeRWh (n:Nat) (s:R8) (i j:Nat) {gr:Option Nat} {N:Nat} {f F:Nat→CV} (hi:H[i]?=some (some n,.blk 3 f)) (hj:H[j]?=some (gr,.blk N F)) (hij:Nat.beq i j=false) (h0:CEnt (f 0) (isC s.tags)) (h1:CEnt (f 1) (.os 1 gr 0 s.rows.length 1)) (h2:CEnt (f 2) (.c (.int .i64 (s.e:Nat)))) (hN:s.rows.length≤N) (hF:∀ a,a<s.rows.length→CEnt (F a) (rowsF s.rows a)) :
  ∀ {al:List Addr} {St:Nat→Prop} {w:World} {base:Nat} {F0:Nat→Prop},HRel al St w base F0 H→HRel al St w base F0 ((H.set i (rwO n s)).set j (none,.dead)):=by
 intro al St w base F0 h
 have hij:=Nat.ne_of_beq_eq_false hij
 have hil:=(List.getElem?_eq_some_iff.1 hi).1
 have hjl:=(List.getElem?_eq_some_iff.1 hj).1
 have k1:=h.weak (F:=rwB s 1 gr) hi (Nat.le_refl _) fun a ha=>by
  rcases a with _|_|_|a
  ·exact h0
  ·exact h1
  ·exact h2
  ·omega
 have k2:=k1.weak (i:=j) (F:=rowsF s.rows) (by rw [List.getElem?_set_ne hij];exact hj) hN hF
 have k4:=k2.closeN (gd:=fun z:Nat×Option Nat=>z.1) (E:=rwE s) (n,gr) i [j] (by simp [hij]) (by simp [hil,hjl]) (by
  simp only [pickL,List.map_cons,List.map_nil,List.getD_eq_getElem?_getD]
  rw [List.getElem?_set_ne (Ne.symm hij)]
  simp [hil,hjl,rwE])
 have e:killL (((H.set i (some n,Res.blk 3 (rwB s 1 gr))).set j (gr,Res.blk s.rows.length (rowsF s.rows))).set i (objE n (fun z:Nat×Option Nat=>z.1) (rwE s))) [j]=(H.set i (rwO n s)).set j (none,.dead):=by
  show ((((H.set i _).set j _).set i _).set j _)=_
  rw [List.set_comm _ _ (Ne.symm hij),List.set_set,List.set_set]
  rfl
 rw [← e]
 exact k4
theorem closeRW (n:Nat) (s:R8) (i j:Nat) {gr:Option Nat} {N:Nat} {f F:Nat→CV} (hi:H[i]?=some (some n,.blk 3 f)) (hj:H[j]?=some (gr,.blk N F)) (hij:Nat.beq i j=false) (h0:CEnt (f 0) (isC s.tags)) (h1:CEnt (f 1) (.os 1 gr 0 s.rows.length 1)) (h2:CEnt (f 2) (.c (.int .i64 (s.e:Nat)))) (hN:s.rows.length≤N) (hF:∀ a,a<s.rows.length→CEnt (F a) (rowsF s.rows a)) :
  EntS G ⟨env,b0,H⟩ ⟨env,b0,(H.set i (rwO n s)).set j (none,.dead)⟩:=EntS.hrel (closeRWh n s i j hi hj hij h0 h1 h2 hN hF)
end
theorem end_closeRW {P:Program} {G:Gh} {fn:Func} {e:Exit} {v m:CV} {env:List (Nat×CV)} {b0:Nat→CV} {H:List (Option Nat×Res)} (he:e=.ret∨e=.normal) (n:Nat) (s:R8) (j:Nat) {gr:Option Nat} {N:Nat} {f F:Nat→CV} (hres:ARes P G fn ⟨env,b0,(H.set 0 (rwO n s)).set j (none,.dead)⟩ v) (hv:CEnt v m) (hi:H[0]?=some (some n,.blk 3 f)) (hj:H[j]?=some (gr,.blk N F)) (hij:Nat.beq 0 j=false) (h0:CEnt (f 0) (isC s.tags)) (h1:CEnt (f 1) (.os 1 gr 0 s.rows.length 1)) (h2:CEnt (f 2) (.c (.int .i64 (s.e:Nat)))) (hN:s.rows.length≤N) (hF:∀ a,a<s.rows.length→CEnt (F a) (rowsF s.rows a)) :
  bodyR P G fn (fun r H'=>r=m∧H'=[rwO n s]) e ⟨env,b0,H⟩:=by
 refine end_hr (closeRWh n s 0 j hi hj hij h0 h1 h2 hN hF) (end_H he ?_ hres hv)
 have hlt:=(List.getElem?_eq_some_iff.1 hi).1
 show (List.set _ _ _)[0]?=_
 rw [List.getElem?_set_ne (Ne.symm (Nat.ne_of_beq_eq_false hij))]
 simp [hlt]
theorem rowC_rows:RowC 1 rowsF:=fun l l2 j hj=>by
 simp only [rowsF,List.getD_eq_getElem?_getD]
 split
 ·rw [List.getElem?_append_left (by omega)]
 ·rw [List.getElem?_append_right (by omega),Nat.mul_one]
theorem rows_set {l:List (List (List UInt8))} {i:Nat} {x:List (List UInt8)} {j:Nat} {c:CV} (hc:CEnt c (lbC x)) (hj:j<l.length):CEnt (updF (rowsF l) i [c] j) (rowsF (l.set i x) j):=by
 rw [updF_get]
 by_cases h:j=i
 ·subst h
  rw [if_pos (by simp)]
  have e:rowsF (l.set j x) j=lbC x:=by simp [rowsF,List.getD_eq_getElem?_getD,hj]
  rw [e,Nat.sub_self]
  exact hc
 ·rw [if_neg (by simp;omega)]
  refine CEnt.of_eq ?_
  simp [rowsF,List.getD_eq_getElem?_getD,List.getElem?_set_ne (Ne.symm h)]
structure OkR (s:R8):Prop where
 n:s.tags.length≤100000
 r:s.rows.length≤100000
 k:∀ x ∈ s.rows,x.length≤1000000
theorem okR_at {s:R8} (h:OkR s) (j:Nat):(s.rows.getD j []).length≤1000000:=by
 rw [List.getD_eq_getElem?_getD]
 cases e:s.rows[j]? with
 | none=>simp
 | some x=>simpa using h.k x (List.mem_of_getElem? e)
def moreS (s:R8) (i:Nat):R8:=⟨s.tags,s.rows++List.replicate i [],s.e⟩
theorem more_pad (s:R8) (i m:Nat) (h:i=m-s.rows.length):moreS s i=⟨s.tags,padR m s.rows,s.e⟩:=by subst h;rfl
theorem more_succ (s:R8) (i:Nat):(moreS s i).rows++[[]]=(moreS s (i+1)).rows:=by simp [moreS,List.replicate_succ',List.append_assoc]
theorem radd08_ac {gs:List Nat} (n:Nat) (s:R8) (b:List UInt8) (hs:OkR s):AC gs Tryz.prog 110 [rwO n s] [.op 0 (some n) 0,bsC b] (fun r H'=>r=.c (.tuple #[])∧H'=[rwO n (raddS b s)]):=by
 have hsn:=hs.n
 have hsr:=hs.r
 refine jF5 207 48 Tryz.func110 fun al w0 F0 St0=>?_;refine code_openRW 0 rfl fun gr=>?_
 refine jlp (α:=Nat×Option Nat) [5,24] (fun i=>[]) (fun (i,g)=>[(some n,.blk 3 (rwB (moreS s i) 1 g)),(g,.blk (moreS s i).rows.length (rowsF (moreS s i).rows))]) (fun i=>i.1≤s.tags.length+1-s.rows.length) (fun i=>s.tags.length+1-s.rows.length-i.1) (0,gr) (hH:=?_) (hr:=?_)
 ·(show HEnt _ [(some n,Res.blk 3 (rwB (moreS s 0) 1 gr)),(gr,Res.blk (moreS s 0).rows.length (rowsF (moreS s 0).rows))];rw [show moreS s 0=s by unfold moreS;simp];exact HEnt.refl _)
 rintro ⟨i,g⟩ (hi:i≤s.tags.length+1-s.rows.length)
 have hml:(moreS s i).rows.length=s.rows.length+i:=by simp [moreS]
 have hmt:(moreS s i).tags.length=s.tags.length:=rfl
 refine jU 77 ?_;refine jcd (oN 0 11) ?_;refine jU 88080020000100009000005000070200001000080000005000070 ?_;refine jF3 50100401120020810 5135090401684000200020006000 (fun h72=>?_) fun h72=>?_
 ·refine jqe (jebl 1 1 zr96 fun p1=>?_)
  refine seq_ent (weakH 2 1 (rowsF [[]]) rfl (Nat.le_refl _) (fun j hj=>by rcases j with _|j <;> first|exact CEnt.nilS _ _|omega)) ?_
  refine jqm (m_appendC rowC_rows (l2:=[[]]) rfl rfl rfl rfl (Nat.le_of_eq (Nat.mul_one _)) (fun _ _=>cZ) (src_os rfl (.inl rfl) (by decide)) rfl (fun j hj=>by rw [Nat.zero_add];exact cZ) Tryz.underlying113 nu113 sz96 zr96 by96 rfl (by simp;omega) (by simp;omega) (fun j hj=>rfl) rfl rfl (Nat.mul_one _) (fun p2=>?_))
  refine jU 10040 ?_
  refine jqm (jmstF 1 (rwB (moreS s (i+1)) 1 p2) ?_ ?_)
  ·exact (fun j hj=>by rcases j with _|_|_|j <;> first|exact cZ|exact cO (by rw [more_succ]))
  refine jU 84005 ?_
  refine jlend (i+1,p2) (h1:=?_) (h2:=?_) (h7:=?_)
  ·(show i+1≤_;omega)
  ·(show _-(i+1)<_-i;omega)
  ·simp only [more_succ];exact HEnt.refl _
 have hiE:i=s.tags.length+1-s.rows.length:=by omega
 have hk:=okR_at hs s.tags.length
 have hpl:=pad_len (s.tags.length+1) s.rows
 dsimp only
 rw [more_pad s i _ hiE]
 rw [more_pad s i _ hiE] at hml
 have hk2:((padR (s.tags.length+1) s.rows)[s.tags.length]?.getD []).length≤1000000:=by rw [← List.getD_eq_getElem?_getD,pad_get];exact hk
 refine jcdL n (oT [0,2,4,6,8,12,14,16,18,20,22,24,28] (.two 5 (.two 13 (oT [31,33,34,37] .done) 15 (oT [27,33,34,37] .done)) 15 (oT [11,27,33,34,37] .done))) ?_;refine jLq jrm ?_;refine jLq jrnc ?_;refine jLq (jrfa 1 1 false) ?_;refine jLL jlrd ?_;refine jLq jrm ?_;refine jLq jrm ?_;refine jLq jrnc ?_;refine jLq (jrfa 1 1 false) ?_;refine jLL jlrd ?_;refine jLq jrm ?_;refine jLq jri ?_;refine jLo jrdo ?_;refine jLq jrm ?_;refine jLtwo ?_ ?_
 ·refine jLe 0 (jebl 0 1 zr58 fun p1=>?_)
  refine jLtwo ?_ ?_
  ·refine jLm 0 2 (m_appendCX rowC_lb (l:=[]) (l2:=(padR (s.tags.length+1) s.rows).getD s.tags.length []) rfl rfl rfl rfl (Nat.le_of_eq (Nat.zero_mul _)) (fun j hj=>absurd hj (by simp)) (src_rs rfl) rfl (fun j hj=>by (simp only [Nat.div_one];exact cZ)) Tryz.underlying96 nu96 sz58 zr58 by58 rfl (by simp only [List.length_nil,pad_get];omega) (by simp only [List.length_nil,pad_get];omega) (fun j hj=>rfl) rfl rfl (Nat.mul_one _) (fun p2=>?_))
   refine jLe 0 (jebl 1 1 zr58 fun p3=>?_)
   refine jLm 0 2 (m_appendCX (rowC_lb) (l2:=[b]) rfl rfl rfl rfl (by omega) (fun _ _=>cZ) (src_os rfl (.inl rfl) (by decide)) rfl (fun j hj=>by rcases j with _|j <;> first|exact cZ|(exfalso;simp at hj <;> omega)) Tryz.underlying96 nu96 sz58 zr58 by58 rfl (by (simp;omega)) (by (simp;omega)) (leaf_flk rfl rfl) rfl rfl rfl (fun p4=>?_))
   refine jLq jri ?_
   first
    |(refine zl_ent (freeze 2 rfl) ?_;refine zl_ent (thaw 46 (fun a _=>bsC (((padR (s.tags.length+1) s.rows).getD s.tags.length []++[b]).getD a [])) rfl rfl (by simp) (fun a c ha hc=>by obtain rfl:c=0:=(by omega);rw [Nat.zero_add,Nat.mul_one,Nat.add_zero];exact cZ)) ?_)
    |(refine zl_ent (freeze 3 rfl) ?_;refine zl_ent (thaw 46 (fun a _=>bsC (((padR (s.tags.length+1) s.rows).getD s.tags.length []++[b]).getD a [])) rfl rfl (by simp) (fun a c ha hc=>by obtain rfl:c=0:=(by omega);rw [Nat.zero_add,Nat.mul_one,Nat.add_zero];exact cZ)) ?_)
   refine jLm 0 1 (jmstFX 1 (rowsF ((padR (s.tags.length+1) s.rows).set s.tags.length ((padR (s.tags.length+1) s.rows).getD s.tags.length []++[b]))) ?_ ?_)
   ·exact (fun j hj=>rows_set cZ hj)
   refine jLd ?_
   exact end_closeRW (.inr rfl) n (raddS b s) 1 (res_0 rfl) cZ rfl rfl rfl (by exact cZ) (by exact cO (by simp [raddS])) (by exact cZ) (by simp [raddS]) (fun _ _=>by exact cZ)
  ·refine jLe 0 (jebl 1 1 zr58 fun p2=>?_)
   refine jLm 0 2 (m_appendCX rowC_lb (l:=[]) (l2:=(padR (s.tags.length+1) s.rows).getD s.tags.length []) rfl rfl rfl rfl (Nat.le_of_eq (Nat.zero_mul _)) (fun j hj=>absurd hj (by simp)) (src_rs rfl) rfl (fun j hj=>by (simp only [Nat.div_one];exact cZ)) Tryz.underlying96 nu96 sz58 zr58 by58 rfl (by simp only [List.length_nil,pad_get];omega) (by simp only [List.length_nil,pad_get];omega) (fun j hj=>rfl) rfl rfl (Nat.mul_one _) (fun p3=>?_))
   refine jLm 0 2 (m_appendCX (rowC_lb) (l2:=[b]) rfl rfl rfl rfl (by omega) (fun _ _=>cZ) (src_os rfl (.inl rfl) (by decide)) rfl (fun j hj=>by rcases j with _|j <;> first|exact cZ|(exfalso;simp at hj <;> omega)) Tryz.underlying96 nu96 sz58 zr58 by58 rfl (by (simp;omega)) (by (simp;omega)) (leaf_flk rfl rfl) rfl rfl rfl (fun p4=>?_))
   refine jLq jri ?_
   first
    |(refine zl_ent (freeze 2 rfl) ?_;refine zl_ent (thaw 46 (fun a _=>bsC (((padR (s.tags.length+1) s.rows).getD s.tags.length []++[b]).getD a [])) rfl rfl (by simp) (fun a c ha hc=>by obtain rfl:c=0:=(by omega);rw [Nat.zero_add,Nat.mul_one,Nat.add_zero];exact cZ)) ?_)
    |(refine zl_ent (freeze 3 rfl) ?_;refine zl_ent (thaw 46 (fun a _=>bsC (((padR (s.tags.length+1) s.rows).getD s.tags.length []++[b]).getD a [])) rfl rfl (by simp) (fun a c ha hc=>by obtain rfl:c=0:=(by omega);rw [Nat.zero_add,Nat.mul_one,Nat.add_zero];exact cZ)) ?_)
   refine jLm 0 1 (jmstFX 1 (rowsF ((padR (s.tags.length+1) s.rows).set s.tags.length ((padR (s.tags.length+1) s.rows).getD s.tags.length []++[b]))) ?_ ?_)
   ·exact (fun j hj=>rows_set cZ hj)
   refine jLd ?_
   exact end_closeRW (.inr rfl) n (raddS b s) 1 (res_0 rfl) cZ rfl rfl rfl (by exact cZ) (by exact cO (by simp [raddS])) (by exact cZ) (by simp [raddS]) (fun _ _=>by exact cZ)
 ·refine jLe 0 (jebl 1 1 zr58 fun p1=>?_)
  refine jLe 0 (jebl 0 1 zr58 fun p2=>?_)
  refine jLm 0 3 (m_appendCX rowC_lb (l:=[]) (l2:=(padR (s.tags.length+1) s.rows).getD s.tags.length []) rfl rfl rfl rfl (Nat.le_of_eq (Nat.zero_mul _)) (fun j hj=>absurd hj (by simp)) (src_rs rfl) rfl (fun j hj=>by (simp only [Nat.div_one];exact cZ)) Tryz.underlying96 nu96 sz58 zr58 by58 rfl (by simp only [List.length_nil,pad_get];omega) (by simp only [List.length_nil,pad_get];omega) (fun j hj=>rfl) rfl rfl (Nat.mul_one _) (fun p3=>?_))
  refine jLm 0 3 (m_appendCX (rowC_lb) (l2:=[b]) rfl rfl rfl rfl (by omega) (fun _ _=>cZ) (src_os rfl (.inl rfl) (by decide)) rfl (fun j hj=>by rcases j with _|j <;> first|exact cZ|(exfalso;simp at hj <;> omega)) Tryz.underlying96 nu96 sz58 zr58 by58 rfl (by (simp;omega)) (by (simp;omega)) (leaf_flk rfl rfl) rfl rfl rfl (fun p4=>?_))
  refine jLq jri ?_
  first
   |(refine zl_ent (freeze 2 rfl) ?_;refine zl_ent (thaw 46 (fun a _=>bsC (((padR (s.tags.length+1) s.rows).getD s.tags.length []++[b]).getD a [])) rfl rfl (by simp) (fun a c ha hc=>by obtain rfl:c=0:=(by omega);rw [Nat.zero_add,Nat.mul_one,Nat.add_zero];exact cZ)) ?_)
   |(refine zl_ent (freeze 3 rfl) ?_;refine zl_ent (thaw 46 (fun a _=>bsC (((padR (s.tags.length+1) s.rows).getD s.tags.length []++[b]).getD a [])) rfl rfl (by simp) (fun a c ha hc=>by obtain rfl:c=0:=(by omega);rw [Nat.zero_add,Nat.mul_one,Nat.add_zero];exact cZ)) ?_)
  refine jLm 0 1 (jmstFX 1 (rowsF ((padR (s.tags.length+1) s.rows).set s.tags.length ((padR (s.tags.length+1) s.rows).getD s.tags.length []++[b]))) ?_ ?_)
  ·exact (fun j hj=>rows_set cZ hj)
  refine jLd ?_
  exact end_closeRW (.inr rfl) n (raddS b s) 1 (res_0 rfl) cZ rfl rfl rfl (by exact cZ) (by exact cO (by simp [raddS])) (by exact cZ) (by simp [raddS]) (fun _ _=>by exact cZ)
end
section
variable {gs:List Nat} [Ok9 gs]

structure OkW (s:W8):Prop where
 n:s.fr.length≤16
 k:∀ x ∈ s.fr,x.2.length≤1000000∧sumL x.2≤1000000
 d:s.d.length≤1000000
theorem fr_len {zs:List FrG} {fr:List (Int×List (List UInt8))} (h:zs.map Prod.fst=fr):zs.length=fr.length:=by rw [← h];simp
theorem top_at {x:FrG} {zr:List FrG} {m j:Nat} (hj:j<2) (hm:m=zr.length+1):rowF 2 frF frD (x::zr).reverse (0+(m-1) * 2+j)=frF x j:=by
 rw [Nat.zero_add,rowF_at hj,hm]
 simp [List.getD_eq_getElem?_getD]
theorem row_low {x:FrG} {zr:List FrG} {j:Nat} (hj:j<zr.length * 2):rowF 2 frF frD (x::zr).reverse j=rowF 2 frF frD zr.reverse j:=by
 simp only [rowF,List.reverse_cons,List.getD_eq_getElem?_getD]
 rw [List.getElem?_append_left (by simp;omega)]
theorem top_store {x x':FrG} {zr:List FrG} {m q n j:Nat} {g:Option Nat} (hm:m=zr.length+1) (hx:x'.1.1=x.1.1) (hg:x'.2=g) (hn:x'.1.2.length=n) (hj:j<m * 2):CEnt (updF (rowF 2 frF frD (x::zr).reverse) (0+(m-1) * 2+1) [.os q g 0 n 1] j) (rowF 2 frF frD (x'::zr).reverse j):=by
 rw [updF_get]
 by_cases h1:j<zr.length * 2
 ·rw [if_neg (by simp;omega),row_low h1,row_low h1]
  exact cZ
 ·by_cases h2:j=0+(m-1) * 2+1
  ·rw [if_pos (by simp;omega),h2,top_at (by omega) hm,Nat.sub_self]
   show CEnt (.os q g 0 n 1) (.os 0 x'.2 0 x'.1.2.length 1)
   rw [hg,hn]
   exact cO rfl
  ·obtain rfl:j=0+(m-1) * 2+0:=by omega
   rw [if_neg (by simp;omega),top_at (by omega) hm,top_at (by omega) hm]
   show CEnt (.c (.int .i64 x.1.1)) (.c (.int .i64 x'.1.1))
   rw [hx]
   exact cZ
theorem failW_ac {gs:List Nat} (n:Nat) (s:W8) (e:Nat):AC gs Tryz.prog 100 [wrO n s] [.op 0 (some n) 0,.err e] (fun r H'=>r=.c (.tuple #[])∧H'=[wrO n (failW e s)]):=by
 refine ac_oF 13 Tryz.func100 fun al w0 F0 St0=>?_;refine code_openW 0 rfl fun go gd zs hzs=>?_;refine jU 55000005010004016 ?_;refine jF3 10004011200 10 (fun h38=>?_) fun h38=>?_
 rotate_left
 ·have hF:failW e s=s:=by unfold failW;rw [if_neg (by omega)]
  rw [hF]
  exact end_pack (gd:=fun z:WZ8 s.fr=>z.1.1) (E:=wrE s) (.inr rfl) _ ⟨(n,go,gd,zs),hzs⟩ [0,1,2,3] (by decide) rfl (res_0 rfl) ⟨rfl,rfl⟩
 refine jqm (jmstF 1 (wrB ⟨s.fr,s.d,e⟩ 1 2 go gd) ?_ ?_)
 ·exact jal
 refine jU 5 ?_
 have hF:failW e s=⟨s.fr,s.d,e⟩:=by unfold failW;rw [if_pos (by omega)]
 rw [hF]
 exact end_pack (gd:=fun z:WZ8 s.fr=>z.1.1) (E:=wrE ⟨s.fr,s.d,e⟩) (.inr rfl) _ ⟨(n,go,gd,zs),hzs⟩ [0,1,2,3] (by decide) rfl (res_0 rfl) ⟨rfl,rfl⟩
set_option maxHeartbeats 1000000 in
theorem addW_ac {gs:List Nat} (n:Nat) (s:W8) (b:List UInt8) (hs:OkW s) (hb:b.length≤100000000):AC gs Tryz.prog 132 [wrO n s] [.op 0 (some n) 0,bsC b] (fun r H'=>r=.c (.tuple #[])∧H'=[wrO n (addW b s)]):=by
 have hsd:=hs.d
 have hsn:=hs.n
 refine ac_oF 42 Tryz.func132 fun al w0 F0 St0=>?_;refine jcs ?_
 (refine code_openW 0 rfl fun go gd zs hzs=>?_;have hzl:=fr_len hzs)
 refine jU 51350904016 ?_
 skip
 refine jU 5216 ?_;refine jF3 0 810 (fun h45=>?_) fun h45=>?_
 rotate_left
 ·have hf0:s.fr=[]:=List.eq_nil_of_length_eq_zero (by omega)
  refine jU 1501004011200 ?_
  refine jqm (jab fun p1=>?_)
  refine jU 10040 ?_
  refine jqm (jmstF 1 (wrB (addW b s) 1 2 go p1) ?_ ?_)
  ·exact (fun j hj=>by rcases j with _|_|_|j <;> first|exact cO (by simp [addW,hf0])|exact CEnt.err (by simp [addW,hf0])|omega)
  refine jU 5 ?_
  refine end_hr (H':=?H2) ?hh ?hb
  case hh=>intro _ _ _ _ _ hx;exact closeWh n (addW b s) zs 0 1 2 3 (by simp [addW,hf0];rw [hf0] at hzs;simpa using hzs) rfl rfl rfl rfl (by decide) (by exact cO rfl) (by exact cO rfl) (by exact cZ) (by simp [addW,hf0]) (fun a ha=>by simp [addW,hf0] at ha) (by simp [addW,hf0]) (fun _ _=>by simp only [addW,hf0];exact cZ) hx
  case hb=>exact end_own (.inr rfl) _ [wrO n (addW b s)] [0] (by decide) rfl (res_0 rfl) ⟨rfl,rfl⟩
 refine jcs ?_
 obtain ⟨x,zr,rfl⟩:∃ x zr,zs=x::zr:=by
   cases zs with
   | nil=>simp at hzl;omega
   | cons x zr=>exact ⟨x,zr,rfl⟩
 have hfr:s.fr=x.1::zr.map Prod.fst:=by rw [← hzs];rfl
 have hxk:=hs.k x.1 (by rw [hfr];exact List.mem_cons_self)
 have hzl:s.fr.length=zr.length+1:=by rw [← hzl];rfl
 refine jE (bag_pop 3 rfl) ?_;refine jcdZ (oT [0,2,4,8,10,12,14,16,18,20,22,24,26,28,30] (.two 3 (oT [33,35,37,38,40,43] .done) 16 (.two 3 (oT [35,37,38,40,43] .done) 17 (.two 3 (oT [37,38,40,43] .done) 18 (oT [7,38,40,43] .done))))) ?_;refine jU 400000100000009000000400000 ?_;refine jzq jra ?_;refine jU 40000050000000100000009000000400000 ?_;refine jzq jra ?_;refine jzq (jri (i:=(s.fr.length-1)) (hz:=by omega)) ?_;refine jU 60000000 ?_;refine jzo (jrdo (hv:=top_at (by omega) hzl)) ?_;refine jzq jrm ?_;refine jztwo ?_ ?_
 ·refine jz1o jrdo ?_;refine z_ent (weaken 26 (.os 4 x.2 0 x.1.2.length 1) (cO rfl)) ?_
  refine jze (jecP (clone8_ac b (by omega)) ?_)
  refine jze (jebl 1 1 zr58 fun p1=>?_)
  refine jzm (jac 24 (rowC_lb) (l2:=[b]) fun p2=>?_)
  refine jzq (jri (i:=(s.fr.length-1)) (hz:=by omega)) ?_;refine jU 60000000 ?_
  refine jzm (jmstF 1 (rowF 2 frF frD (((x.1.1,x.1.2++[b]),p2)::zr).reverse) ?_ ?_)
  ·exact (fun j hj=>top_store hzl rfl rfl (by simp) hj)
  refine jU 8700000 ?_;refine jE (weakH 4 (x.1.2++[b]).length (lbF (x.1.2++[b])) rfl (by simp) (fun _ _=>cZ)) ?_;refine jE (bag_push 3 4 rfl rfl rfl) ?_;refine jE (closeW n (addW b s) (((x.1.1,x.1.2++[b]),p2)::zr) 0 1 2 3 (by simp [addW,hfr]) rfl rfl rfl rfl (by decide) (cO (by simp [addW,hfr])) (cO (by simp [addW,hfr])) (CEnt.err (by simp [addW,hfr])) (by simp [addW,hfr]) (fun _ _=>cZ) (by simp [addW,hfr]) (fun _ _=>by simp only [addW,hfr];exact cZ)) ?_;refine jU 30007000 ?_
  exact end_own (.inl rfl) _ [wrO n (addW b s)] [0] (by decide) rfl (res_0 rfl) ⟨rfl,rfl⟩
 ·refine z_ent (weaken 26 (.os 4 x.2 0 x.1.2.length 1) (cO rfl)) ?_
  refine jze (jecP (clone8_ac b (by omega)) ?_)
  refine jztwo ?_ ?_
  ·refine jz1o jrdo ?_
   refine jze (jebl 1 1 zr58 fun p1=>?_)
   refine jzm (jac 24 (rowC_lb) (l2:=[b]) fun p2=>?_)
   refine jzq (jri (i:=(s.fr.length-1)) (hz:=by omega)) ?_;refine jU 60000000 ?_
   refine jzm (jmstF 1 (rowF 2 frF frD (((x.1.1,x.1.2++[b]),p2)::zr).reverse) ?_ ?_)
   ·exact (fun j hj=>top_store hzl rfl rfl (by simp) hj)
   refine jU 8700000 ?_;refine jE (weakH 4 (x.1.2++[b]).length (lbF (x.1.2++[b])) rfl (by simp) (fun _ _=>cZ)) ?_;refine jE (bag_push 3 4 rfl rfl rfl) ?_;refine jE (closeW n (addW b s) (((x.1.1,x.1.2++[b]),p2)::zr) 0 1 2 3 (by simp [addW,hfr]) rfl rfl rfl rfl (by decide) (cO (by simp [addW,hfr])) (cO (by simp [addW,hfr])) (CEnt.err (by simp [addW,hfr])) (by simp [addW,hfr]) (fun _ _=>cZ) (by simp [addW,hfr]) (fun _ _=>by simp only [addW,hfr];exact cZ)) ?_;refine jU 30007000 ?_
   exact end_own (.inl rfl) _ [wrO n (addW b s)] [0] (by decide) rfl (res_0 rfl) ⟨rfl,rfl⟩
  ·refine jze (jebl 1 1 zr58 fun p1=>?_)
   refine jztwo ?_ ?_
   ·refine jz1o jrdo ?_
    refine jzm (jac 24 (rowC_lb) (l2:=[b]) fun p2=>?_)
    refine jzq (jri (i:=(s.fr.length-1)) (hz:=by omega)) ?_;refine jU 60000000 ?_
    refine jzm (jmstF 1 (rowF 2 frF frD (((x.1.1,x.1.2++[b]),p2)::zr).reverse) ?_ ?_)
    ·exact (fun j hj=>top_store hzl rfl rfl (by simp) hj)
    refine jU 8700000 ?_;refine jE (weakH 4 (x.1.2++[b]).length (lbF (x.1.2++[b])) rfl (by simp) (fun _ _=>cZ)) ?_;refine jE (bag_push 3 4 rfl rfl rfl) ?_;refine jE (closeW n (addW b s) (((x.1.1,x.1.2++[b]),p2)::zr) 0 1 2 3 (by simp [addW,hfr]) rfl rfl rfl rfl (by decide) (cO (by simp [addW,hfr])) (cO (by simp [addW,hfr])) (CEnt.err (by simp [addW,hfr])) (by simp [addW,hfr]) (fun _ _=>cZ) (by simp [addW,hfr]) (fun _ _=>by simp only [addW,hfr];exact cZ)) ?_;refine jU 30007000 ?_
    exact end_own (.inl rfl) _ [wrO n (addW b s)] [0] (by decide) rfl (res_0 rfl) ⟨rfl,rfl⟩
   ·refine jzm (jac 24 (rowC_lb) (l2:=[b]) fun p2=>?_)
    refine jz1o jrdo ?_;refine jzq (jri (i:=(s.fr.length-1)) (hz:=by omega)) ?_;refine jU 60000000 ?_
    refine jzm (jmstF 1 (rowF 2 frF frD (((x.1.1,x.1.2++[b]),p2)::zr).reverse) ?_ ?_)
    ·exact (fun j hj=>top_store hzl rfl rfl (by simp) hj)
    refine jU 8700000 ?_;refine jE (weakH 4 (x.1.2++[b]).length (lbF (x.1.2++[b])) rfl (by simp) (fun _ _=>cZ)) ?_;refine jE (bag_push 3 4 rfl rfl rfl) ?_;refine jE (closeW n (addW b s) (((x.1.1,x.1.2++[b]),p2)::zr) 0 1 2 3 (by simp [addW,hfr]) rfl rfl rfl rfl (by decide) (cO (by simp [addW,hfr])) (cO (by simp [addW,hfr])) (CEnt.err (by simp [addW,hfr])) (by simp [addW,hfr]) (fun _ _=>cZ) (by simp [addW,hfr]) (fun _ _=>by simp only [addW,hfr];exact cZ)) ?_;refine jU 30007000 ?_
    exact end_own (.inl rfl) _ [wrO n (addW b s)] [0] (by decide) rfl (res_0 rfl) ⟨rfl,rfl⟩
theorem putW_ac (n:Nat) (s:W8) (tag:Int) (body:List UInt8) (e:Nat) (hs:OkW s) (hb:body.length≤1000000):AC gs Tryz.prog 96 [wrO n s] [.op 0 (some n) 0,.c (.int .i64 tag),bsC body,.err e] (fun r H'=>r=.c (.tuple #[])∧H'=[wrO n (putW tag body e s)]):=by
 have hpl:(putL tag body).length≤100000000:=by
  unfold putL
  have:=lenL_bd body.length
  simp only [List.length_cons,List.length_append]
  omega
 refine jF5 116 32 Tryz.func96 fun al w0 F0 St0=>?_;refine jF2 75 0 (failW_ac n s e) ?_;refine code_openW 0 rfl fun go gd zs hzs=>?_;refine jU 55000005010004016 ?_;refine jF3 30007000 810 (fun h55=>?_) fun h55=>?_
 ·have hP:putW tag body e s=failW e s:=by unfold putW;rw [if_pos (by omega)]
  rw [hP]
  exact end_pack (gd:=fun z:WZ8 (failW e s).fr=>z.1.1) (E:=wrE (failW e s)) (.inl rfl) _ ⟨(n,go,gd,zs),hzs⟩ [0,1,2,3] (by decide) rfl (res_0 rfl) ⟨rfl,rfl⟩
 have hk0:(failW e s).k=0:=by omega
 have hF:failW e s=s:=by
  obtain ⟨fr,d,k⟩:=s
  unfold failW at hk0 ⊢
  split
  ·rename_i h
   rw [if_pos h] at hk0
   have h:k=0:=h
   have hk0:e=0:=hk0
   rw [h,hk0]
  ·rfl
 refine jE (closeW n (failW e s) zs 0 1 2 3 hzs rfl rfl rfl rfl (by decide) (cO rfl) (cO rfl) cZ (Nat.le_refl _) (fun _ _=>cZ) (Nat.le_refl _) (fun _ _=>cZ)) ?_
 rw [hF]
 have hsk:s.k=0:=by rw [← hF];exact hk0
 refine jnm ?_;refine jU 116 ?_;refine jq (rd_build (n:=2) rfl zr130 pl130 rfl rfl) ?_;refine jF1 55000001675119009001 (tput_ac tag body hb) ?_;refine jF3 116 810 (fun h59=>?_) fun h59=>?_
 ·refine jF2 300070005 0 (failW_ac n s (putE tag body)) ?_
  have hP:putW tag body e s=failW (putE tag body) s:=by unfold putW;rw [hF,if_neg (by omega),if_pos (by omega)];unfold failW;rw [if_pos hsk]
  rw [hP]
  exact end_own (.inl rfl) _ [_] [0] (by decide) rfl (res_0 rfl) ⟨rfl,rfl⟩
 have hP0:putE tag body=0:=by omega
 rw [if_pos hP0]
 refine jU 11200 ?_;refine jF2 5 0 (addW_ac n s _ hs hpl) ?_
 have hP:putW tag body e s=addW (putL tag body) s:=by unfold putW;rw [hF,if_neg (by omega),if_neg (by omega)]
 rw [hP]
 exact end_own (.inr rfl) _ [_] [0] (by decide) rfl (res_0 rfl) ⟨rfl,rfl⟩
end
end Am
end Go.Proofs.YtnijncmifjnifaaGreatDoor
namespace Go.Proofs
open Go.Shelf
def Tryz.lays128_ren:Go.Shelf.Ren:=⟨fun|128=>195|n=>n,fun|51=>241|3=>3|4=>4|46=>52|5=>5|9=>9|n=>n,fun|n=>n⟩
def Tryz.lays125_ren:Go.Shelf.Ren:=⟨fun|125=>182|128=>195|129=>196|n=>n,fun|46=>52|3=>3|51=>241|53=>208|4=>4|5=>5|9=>9|n=>n,fun|n=>n⟩
def Tryz.lays137_ren:Go.Shelf.Ren:=⟨fun|137=>106|217=>140|266=>168|n=>n,fun|9=>9|5=>5|3=>3|n=>n,fun|n=>n⟩
theorem Tryz.lays137:Go.Proofs.Lays.n137 Tryz.prog Tryz.lays137_ren:={
 mixed:=by kernel_rfl
 f137:=Tryz.func106.trans (congrArg some (by kernel_rfl))
 f217:=Tryz.func140.trans (congrArg some (by kernel_rfl))
 f266:=Tryz.func168.trans (congrArg some (by kernel_rfl))
 t3:=Tryz.underlying3
 a3:=Tryz.isAgg3
 z3:=Tryz.sizeOf3
 v3:=Tryz.zeroValue3
 t5:=Tryz.underlying5
 a5:=Tryz.isAgg5
 z5:=Tryz.sizeOf5
 v5:=Tryz.zeroValue5
 t9:=Tryz.underlying9
 a9:=Tryz.isAgg9
 z9:=Tryz.sizeOf9
 v9:=Tryz.zeroValue9 }
open Go.RowKit in
theorem Tryz.strings_IndexByte (s:ByteArray) (c:Int) (w:World) :
  Calls Tryz.prog 106 #[.string s,.int .u8 c] w fun e w'=>e=.returned (.int .i64 (Lib.indexByte s.data.toList c.toNat.toUInt8))∧w'=w:=Any.strings_IndexByte Tryz.lays137 s c w
def Tryz.lays215_ren:Go.Shelf.Ren:=⟨fun|215=>114|n=>n,fun|3=>3|4=>4|n=>n,fun|n=>n⟩
open Go.RowKit in
def Tryz.lays122_ren:Go.Shelf.Ren:=⟨fun|122=>72|215=>114|n=>n,fun|3=>3|4=>4|n=>n,fun|n=>n⟩
open Go.RowKit in
def Tryz.lays129_ren:Go.Shelf.Ren:=⟨fun|129=>196|n=>n,fun|53=>208|3=>3|4=>4|46=>52|5=>5|9=>9|n=>n,fun|n=>n⟩
def Tryz.lays217_ren:Go.Shelf.Ren:=⟨fun|217=>140|266=>168|n=>n,fun|9=>9|5=>5|3=>3|n=>n,fun|n=>n⟩
open Go.RowKit Go.Lib in
def Tryz.lays206_ren:Go.Shelf.Ren:=⟨fun|206=>138|n=>n,fun|9=>9|4=>4|3=>3|n=>n,fun|n=>n⟩
open Go.RowKit Go.Lib in
def Tryz.lays99_ren:Go.Shelf.Ren:=⟨fun|99=>104|206=>138|n=>n,fun|9=>9|4=>4|3=>3|n=>n,fun|n=>n⟩
theorem Tryz.lays99:Go.Proofs.Lays.n99 Tryz.prog Tryz.lays99_ren:={
 mixed:=by kernel_rfl
 f99:=Tryz.func104.trans (congrArg some (by kernel_rfl))
 f206:=Tryz.func138.trans (congrArg some (by kernel_rfl))
 t3:=Tryz.underlying3
 a3:=Tryz.isAgg3
 z3:=Tryz.sizeOf3
 v3:=Tryz.zeroValue3
 t4:=Tryz.underlying4
 a4:=Tryz.isAgg4
 z4:=Tryz.sizeOf4
 v4:=Tryz.zeroValue4
 t9:=Tryz.underlying9
 a9:=Tryz.isAgg9
 z9:=Tryz.sizeOf9
 v9:=Tryz.zeroValue9 }
open Go.RowKit Go.Lib in
theorem Tryz.strings_HasPrefix (s p:ByteArray) (w:World) :
  Calls Tryz.prog 104 #[.string s,.string p] w fun e w'=>e=.returned (.bool (Lib.hasPrefix s.data.toList p.data.toList))∧w'=w:=Any.strings_HasPrefix Tryz.lays99 s p w
def Tryz.lays207_ren:Go.Shelf.Ren:=⟨fun|207=>139|n=>n,fun|9=>9|4=>4|3=>3|n=>n,fun|n=>n⟩
open Go.RowKit Go.Lib in
def Tryz.lays100_ren:Go.Shelf.Ren:=⟨fun|100=>105|207=>139|n=>n,fun|9=>9|4=>4|3=>3|n=>n,fun|n=>n⟩
theorem Tryz.lays100:Go.Proofs.Lays.n100 Tryz.prog Tryz.lays100_ren:={
 mixed:=by kernel_rfl
 f100:=Tryz.func105.trans (congrArg some (by kernel_rfl))
 f207:=Tryz.func139.trans (congrArg some (by kernel_rfl))
 t3:=Tryz.underlying3
 a3:=Tryz.isAgg3
 z3:=Tryz.sizeOf3
 v3:=Tryz.zeroValue3
 t4:=Tryz.underlying4
 a4:=Tryz.isAgg4
 z4:=Tryz.sizeOf4
 v4:=Tryz.zeroValue4
 t9:=Tryz.underlying9
 a9:=Tryz.isAgg9
 z9:=Tryz.sizeOf9
 v9:=Tryz.zeroValue9 }
open Go.RowKit Go.Lib in
theorem Tryz.strings_HasSuffix (s p:ByteArray) (w:World) (hs:s.size≤9223372036854775807) :
  Calls Tryz.prog 105 #[.string s,.string p] w fun e w'=>e=.returned (.bool (Lib.hasSuffix s.data.toList p.data.toList))∧w'=w:=Any.strings_HasSuffix Tryz.lays100 s p w hs
end Go.Proofs
namespace Go.Proofs
open Go.Shelf
def Tryz.sortB_ren:Go.Shelf.Ren:=⟨fun|6=>165|15=>182|14=>181|28=>195|29=>196|20=>187|21=>188|22=>189|23=>190|24=>191|25=>192|26=>193|27=>194|46=>199|47=>200|48=>201|49=>202|50=>203|57=>204|n=>n,fun|22=>96|24=>58|25=>216|3=>3|39=>52|0=>0|53=>241|55=>208|4=>4|46=>235|45=>234|50=>220|5=>5|9=>9|66=>244|70=>248|76=>250|77=>143|n=>n,fun|n=>n⟩
theorem Tryz.sortB:Go.Proofs.SlLaysF.n6 Tryz.prog Tryz.sortB_ren:={
 mixed:=by kernel_rfl
 f6:=⟨Tryz.f165.name,by decide,Tryz.func165.trans (congrArg some (by kernel_rfl))⟩
 f14:=⟨Tryz.f181.name,by decide,Tryz.func181.trans (congrArg some (by kernel_rfl))⟩
 f15:=Tryz.func182.trans (congrArg some (by kernel_rfl))
 f20:=⟨Tryz.f187.name,by decide,Tryz.func187.trans (congrArg some (by kernel_rfl))⟩
 f21:=⟨Tryz.f188.name,by decide,Tryz.func188.trans (congrArg some (by kernel_rfl))⟩
 f22:=⟨Tryz.f189.name,by decide,Tryz.func189.trans (congrArg some (by kernel_rfl))⟩
 f23:=⟨Tryz.f190.name,by decide,Tryz.func190.trans (congrArg some (by kernel_rfl))⟩
 f24:=⟨Tryz.f191.name,by decide,Tryz.func191.trans (congrArg some (by kernel_rfl))⟩
 f25:=⟨Tryz.f192.name,by decide,Tryz.func192.trans (congrArg some (by kernel_rfl))⟩
 f26:=⟨Tryz.f193.name,by decide,Tryz.func193.trans (congrArg some (by kernel_rfl))⟩
 f27:=⟨Tryz.f194.name,by decide,Tryz.func194.trans (congrArg some (by kernel_rfl))⟩
 f28:=Tryz.func195.trans (congrArg some (by kernel_rfl))
 f29:=Tryz.func196.trans (congrArg some (by kernel_rfl))
 f46:=⟨Tryz.f199.name,by decide,Tryz.func199.trans (congrArg some (by kernel_rfl))⟩
 f47:=Tryz.func200.trans (congrArg some (by kernel_rfl))
 f48:=Tryz.func201.trans (congrArg some (by kernel_rfl))
 f49:=⟨Tryz.f202.name,by decide,Tryz.func202.trans (congrArg some (by kernel_rfl))⟩
 f50:=⟨Tryz.f203.name,by decide,Tryz.func203.trans (congrArg some (by kernel_rfl))⟩
 f57:=⟨Tryz.f204.name,by decide,Tryz.func204.trans (congrArg some (by kernel_rfl))⟩
 t0:=Tryz.underlying0
 a0:=Tryz.isAgg0
 z0:=Tryz.sizeOf0
 v0:=Tryz.zeroValue0
 t3:=Tryz.underlying3
 a3:=Tryz.isAgg3
 z3:=Tryz.sizeOf3
 v3:=Tryz.zeroValue3
 t4:=Tryz.underlying4
 a4:=Tryz.isAgg4
 z4:=Tryz.sizeOf4
 v4:=Tryz.zeroValue4
 t5:=Tryz.underlying5
 a5:=Tryz.isAgg5
 z5:=Tryz.sizeOf5
 v5:=Tryz.zeroValue5
 t9:=Tryz.underlying9
 a9:=Tryz.isAgg9
 z9:=Tryz.sizeOf9
 v9:=Tryz.zeroValue9
 t22:=Tryz.underlying96
 a22:=Tryz.isAgg96
 z22:=Tryz.sizeOf96
 v22:=Tryz.zeroValue96
 a24:=Tryz.isAgg58
 z24:=Tryz.sizeOf58
 t25:=Tryz.underlying216
 a25:=Tryz.isAgg216
 z25:=Tryz.sizeOf216
 v25:=Tryz.zeroValue216
 t39:=Tryz.underlying52
 a39:=Tryz.isAgg52
 z39:=Tryz.sizeOf52
 v39:=Tryz.zeroValue52
 t45:=Tryz.underlying234
 a45:=Tryz.isAgg234
 z45:=Tryz.sizeOf234
 v45:=Tryz.zeroValue234
 t46:=Tryz.underlying235
 a46:=Tryz.isAgg235
 z46:=Tryz.sizeOf235
 v46:=Tryz.zeroValue235
 t50:=Tryz.underlying220
 a50:=Tryz.isAgg220
 z50:=Tryz.sizeOf220
 v50:=Tryz.zeroValue220
 t53:=Tryz.underlying241
 a53:=Tryz.isAgg241
 z53:=Tryz.sizeOf241
 v53:=Tryz.zeroValue241
 t55:=Tryz.underlying208
 a55:=Tryz.isAgg208
 z55:=Tryz.sizeOf208
 v55:=Tryz.zeroValue208
 t66:=Tryz.underlying244
 a66:=Tryz.isAgg244
 z66:=Tryz.sizeOf244
 v66:=Tryz.zeroValue244
 t70:=Tryz.underlying248
 a70:=Tryz.isAgg248
 z70:=Tryz.sizeOf248
 v70:=Tryz.zeroValue248
 t76:=Tryz.underlying250
 a76:=Tryz.isAgg250
 z76:=Tryz.sizeOf250
 v76:=Tryz.zeroValue250
 t77:=Tryz.underlying143
 a77:=Tryz.isAgg143
 z77:=Tryz.sizeOf143
 v77:=Tryz.zeroValue143 }
end Go.Proofs
