/- What the law leans on, part 5: W03, W03b, L03, SlC, NumB, MarkC, L03p, P07s, P07d, P07, P07b, P04, Dec, P05, P05b, P06, W06, W06b, P04n, P04b -/
import Derived.Test.YtnijncmifjnifaaGreatDoorM4BundleRead
import Derived.Sort.Statements
import Derived.Lib.DecodeN
import Derived.Lib.ValidU
import Derived.Test.YtnijncmifjnifaaGreatDoorChecked
import Derived.Laws.BitsAllLaws
import Derived.IntWalk
import Derived.Lib.Join
import Derived.WalkKit

set_option maxRecDepth 100000
namespace Go.Proofs.YtnijncmifjnifaaGreatDoor
set_option linter.unusedVariables false
namespace Am
open Go.RowKit
section
variable {gs:List Nat} [Ok9 gs]

theorem made_ac {gs:List Nat} (t:Int):ACp gs Tryz.prog 78 [.c (.int .i64 t)] (.c (.bool (madeM t))):=by
 refine jF5 1216516 17 Tryz.func78 fun al w0 F0 St0=>?_;refine jF4 8000700051100000000444444110000000044 150021 5 (fun g31=>?_) fun g31=>?_
 ·refine cB ?_
  (simp [madeM, *];done)
 refine jF4 8000700051100000000444444 121 9 (fun g31_2=>?_) fun g31_2=>?_
 ·refine cB ?_
  (simp [madeM, *];done)
 refine jF4 800070005150010000000021 800070005150050044 12 (fun g31_3=>?_) fun g31_3=>?_
 ·refine cB ?_
  (simp [madeM, *];done)
 refine cB ?_
 (simp [madeM, *];done)
theorem rmade_ac {gs:List Nat} (t:Int):ACp gs Tryz.prog 93 [.c (.int .i64 t)] (.c (.bool (madeM t))):=by
 refine jF5 1216516 17 Tryz.func93 fun al w0 F0 St0=>?_;refine jF4 8000700051100000000444444110000000044 150021 5 (fun g13=>?_) fun g13=>?_
 ·refine cB ?_
  (simp [madeM, *];done)
 refine jF4 8000700051100000000444444 121 9 (fun g13_2=>?_) fun g13_2=>?_
 ·refine cB ?_
  (simp [madeM, *];done)
 refine jF4 800070005150010000000021 800070005150050044 12 (fun g13_3=>?_) fun g13_3=>?_
 ·refine cB ?_
  (simp [madeM, *];omega)
 refine cB ?_
 (simp [madeM, *];done)
theorem plain_ac {gs:List Nat}:ACp gs Tryz.prog 176 [] (isC plainT):=by
 refine jF5 6516 2 Tryz.func176 fun al w0 F0 St0=>?_;refine jF6 51 9 1 zr3 fun p1=>?_;refine jE (freeze 0 rfl) ?_;refine jE (thawIL 0 (plainT) rfl rfl rfl rfl (fun j hj=>fl_ints (plainT) j hj)) ?_
 refine jR (jrt (hv:=cZ))
theorem known_ac {gs:List Nat} (t:Int):ACp gs Tryz.prog 150 [.c (.int .i64 t)] (.c (.bool (knownM t))):=by
 refine jF5 16516 10 Tryz.func150 fun al w0 F0 St0=>?_;refine jF1 1 (made_ac _) ?_;refine jF4 8000700051100000000444 0 5 (fun g35=>?_) fun g35=>?_
 ·refine cB ?_
  try rw [plain_known]
  (simp [knownM,madeM, *];done)
 refine jF1 1 plain_ac ?_;refine jF1 8000700051500 (contains64_ac plainT t) ?_;refine cB ?_
 try rw [plain_known]
 (simp [knownM,madeM, *];done)
theorem rknown_ac {gs:List Nat} (t:Int):ACp gs Tryz.prog 154 [.c (.int .i64 t)] (.c (.bool (knownM t))):=by
 refine jF5 16516 25 Tryz.func154 fun al w0 F0 St0=>?_;refine jF1 1 (rmade_ac _) ?_;refine jF4 8000700051100000000441100000000441100000000441100000000444444 121 5 (fun g16=>?_) fun g16=>?_
 ·refine cB ?_
  (simp [knownM,madeM, *];done)
 refine jF4 150010000000021 150021150050044 8 (fun g16_2=>?_) fun g16_2=>?_
 rotate_left
 ·refine jF4 800070005110000000044110000000044 150021 17 (fun g16_3=>?_) fun g16_3=>?_
  ·refine cB ?_
   (simp [knownM,madeM, *];done)
  refine jF4 800070005110000000044 800070005150021 21 (fun g16_4=>?_) fun g16_4=>?_
  ·refine cB ?_
   (simp [knownM,madeM, *];done)
  refine cB ?_
  (simp [knownM,madeM, *];done)
 refine jF4 800070005110000000044110000000044110000000044 150021 13 (fun g16_3=>?_) fun g16_3=>?_
 ·refine cB ?_
  (simp [knownM,madeM, *];done)
 refine jF4 800070005110000000044110000000044 150021 17 (fun g16_4=>?_) fun g16_4=>?_
 ·refine cB ?_
  (simp [knownM,madeM, *];done)
 refine jF4 800070005110000000044 800070005150021 21 (fun g16_5=>?_) fun g16_5=>?_
 ·refine cB ?_
  (simp [knownM,madeM, *];done)
 refine cB ?_
 (simp [knownM,madeM, *];done)
theorem rlen_ac {gs:List Nat} (n:Nat) (hn:n<4294967296):ACp gs Tryz.prog 155 [.c (.int .i64 n)] (bsC (lenL n)):=by
 refine jF5 52167516 50 Tryz.func155 fun al w0 F0 St0=>?_;refine jF3 80000016 52167810 (fun h21=>?_) fun h21=>?_
 ·refine jF6 51 1 1 zr5 fun p1=>?_;refine jE (freeze 0 rfl) ?_;refine jE (thawBL 2 ([b8 n]) rfl rfl rfl rfl (.cons (cI ((by rw [b8_mod];omega))) .nil)) ?_
  refine jR (jtr (jrt (hv:=CEnt.bs (by unfold lenL;rw [if_pos (by omega)]))))
 refine jF3 80000016 52167810 (fun h24=>?_) fun h24=>?_
 ·refine jF6 51 2 1 zr5 fun p1=>?_;refine jE (freeze 0 rfl) ?_;refine jE (thawBL 2 ([129,b8 n]) rfl rfl rfl rfl (.cons (cI (rfl)) (.cons (cI ((by rw [b8_mod];omega))) .nil))) ?_
  refine jR (jtr (jrt (hv:=CEnt.bs (by unfold lenL;rw [if_neg (by omega),if_pos (by omega)]))))
 refine jF3 8000001000000180000060000016 52167810 (fun h27=>?_) fun h27=>?_
 ·refine jF6 51 3 1 zr5 fun p1=>?_;refine jE (freeze 0 rfl) ?_;refine jE (thawBL 2 ([130,b8 (n / 256),b8 n]) rfl rfl rfl rfl (.cons (cI (rfl)) (.cons (cI ((by rw [b8_mod];omega))) (.cons (cI ((by rw [b8_mod];omega))) .nil)))) ?_
  refine jR (jtr (jrt (hv:=CEnt.bs (by unfold lenL;rw [if_neg (by omega),if_neg (by omega),if_pos (by omega)]))))
 refine jF3 800000100000018000001000000600000180000060000016 80000010000001800000100000060000018000001000000600000180000060000016810 (fun h30=>?_) fun h30=>?_
 ·refine jF6 51 4 1 zr5 fun p1=>?_;refine jE (freeze 0 rfl) ?_;refine jE (thawBL 2 ([131,b8 (n / 65536),b8 (n / 256),b8 n]) rfl rfl rfl rfl (.cons (cI (rfl)) (.cons (cI ((by rw [b8_mod];omega))) (.cons (cI ((by rw [b8_mod];omega))) (.cons (cI ((by rw [b8_mod];omega))) .nil))))) ?_
  refine jR (jtr (jrt (hv:=CEnt.bs (by unfold lenL;rw [if_neg (by omega),if_neg (by omega),if_neg (by omega),if_pos (by omega)]))))
 refine jF6 51 5 1 zr5 fun p1=>?_;refine jE (freeze 0 rfl) ?_;refine jE (thawBL 2 ([132,b8 (n / 16777216),b8 (n / 65536),b8 (n / 256),b8 n]) rfl rfl rfl rfl (.cons (cI (rfl)) (.cons (cI ((by rw [b8_mod];omega))) (.cons (cI ((by rw [b8_mod];omega))) (.cons (cI ((by rw [b8_mod];omega))) (.cons (cI ((by rw [b8_mod];omega))) .nil)))))) ?_
 refine jR (jrt (hv:=CEnt.bs (by unfold lenL;rw [if_neg (by omega),if_neg (by omega),if_neg (by omega),if_neg (by omega)])))
def lowL (n k:Nat):List UInt8:=(List.range k).map fun i=>b8 (n / 256 ^ i)
theorem lowL_succ (n k:Nat):lowL n (k+1)=lowL n k++[b8 (n / 256 ^ k)]:=by simp [lowL,List.range_succ]
theorem lowL_len (n k:Nat):(lowL n k).length=k:=by simp [lowL]
theorem length_ac {gs:List Nat} (n:Nat) (hn:n<65536):ACp gs Tryz.prog 161 [.c (.int .i64 n)] (bsC (lenL n)):=by
 refine jF5 52167516 28 Tryz.func161 fun al w0 F0 St0=>?_;refine jF3 80000016 207516810 (fun h39=>?_) fun h39=>?_
 ·refine jF6 51 1 1 zr5 fun p1=>?_;refine jE (freeze 0 rfl) ?_;refine jE (thawBL 2 ([b8 n]) rfl rfl rfl rfl (.cons (cI ((by rw [b8_mod];omega))) .nil)) ?_
  refine jR (jtr (jrt (hv:=CEnt.bs (by unfold lenL;rw [if_pos (by omega)]))))
 refine jE (own_nil 3 1 (byF []) rfl) ?_
 refine jlp (α:=Nat×Option Nat) [0,0,3,3,9,17] (fun (k,g)=>[(0,.c (.int .i64 ((n / 256 ^ k:Nat):Int))),(3,.os 0 g 0 (lowL n k).length 1)]) (fun (k,g)=>[(g,.blk (lowL n k).length (byF (lowL n k)))]) (fun k=>k.1=0∨k.1=1∨(k.1=2∧256≤n)) (fun k=>2-k.1) (0,none) (h0:=.inl rfl) (he:=.cons (cI (by simp)) (.cons cZ .nil)) (hH:=.same .nil) (hr:=?_)
 rintro ⟨k,g'⟩ (hk:k=0∨k=1∨(k=2∧256≤n))
 refine jU 52167 ?_;refine jF3 207810 84000200020006000 (fun h43=>?_) fun h43=>?_
 ·have hlk:=lowL_len n k
  have hk3:k≤2:=by omega
  refine jU 11200 ?_;refine jq (jrvW .i64 .u8) ?_
  refine jqe (jebl 1 1 zr5 fun p1=>?_)
  refine jqm (jab (l2:=[b8 (n / 256 ^ k)]) fun p2=>?_)
  refine jU 1200840051 ?_;refine jq (rd_shr rfl rfl rfl (by (omega)) _ rfl) ?_;refine jU 851 ?_
  refine jlend (k+1,p2) (h1:=?_) (h2:=?_) (h5:=?_) (h7:=?_)
  ·show k+1=0∨k+1=1∨(k+1=2∧256≤n)
   rcases hk with rfl|rfl|⟨rfl,h2⟩
   ·omega
   ·simp at h43;omega
   ·simp at h43;omega
  ·show 2-(k+1)<2-k
   rcases hk with rfl|rfl|⟨rfl,h2⟩
   ·omega
   ·omega
   ·simp at h43;omega
  ·simp only [lowL_succ]
   exact .cons (cI (by rw [Nat.pow_succ,← Nat.div_div_eq_div_mul,Int.fdiv_eq_ediv_of_nonneg _ (by decide)];rfl)) (.cons cZ .nil)
  ·simp only [lowL_succ]
   exact .same .nil
 have hlk:=lowL_len n k
 have hk3:k≤2:=by omega
 refine jU 80000093116 ?_
 refine jqe (jebl 1 1 zr5 fun p1=>?_)
 refine jqm (m_appendB (l2:=[b8 (128+k)]) rfl rfl rfl (Nat.le_refl _) (fun _ _=>cZ) (src_os rfl (.inl rfl) (by decide)) rfl (hh_bytes (.cons (cI ((by rw [b8_mod];simp only [hlk];omega))) .nil)) Tryz.underlying58 nu58 sz5 zr5 by5 rfl (by (simp;omega)) (leaf_fl rfl rfl) rfl rfl (fun p2=>?_))
 refine jU 1651 ?_;refine jF2 51165 0 (reverse8_ac _ (lowL n k++[b8 (128+k)]) (by simp [hlk];omega)) ?_;refine jE (freeze 0 rfl) ?_;refine jE (thawB 2 ((lowL n k++[b8 (128+k)]).reverse) rfl rfl (by simp) rfl) ?_;refine jU 80007000 ?_;refine CEnt.bs ?_
 rcases hk with rfl|rfl|⟨rfl,h2⟩
 ·simp at h43;omega
 ·simp at h43
  unfold lenL
  rw [if_neg (by omega),if_pos (by omega)]
  simp [lowL,List.range_succ]
  rfl
 ·unfold lenL
  rw [if_neg (by omega),if_neg (by omega),if_pos (by omega)]
  simp [lowL,List.range_succ]
  rfl
def elC (tag:Nat) (body:List UInt8):CV:=.agg 2 (fl [.c (.int .i64 tag),bsC body])
theorem measure_ac (b:List UInt8):ACp gs Tryz.prog 151 [bsC b] (.tup 3 (fl [.c (.int .i64 (measM b).n),bsC (measM b).rest,.err (measM b).e])):=by
 refine jF5 52316751116 67 Tryz.func151 fun al w0 F0 St0=>?_;refine jF3 0 7810 (fun h72=>?_) fun h72=>?_
 ·refine jcs ?_;refine jcd (oN 0 4) ?_;refine jyq (jrde 1) ?_;refine jU 800030007000880707070 ?_
  have:b.length=0:=by omega
  unfold measM
  rw [if_pos this]
  exact CEnt.tup3 cZ cN cZ
 refine jcd (oN 0 8) ?_;refine jU 70 ?_;refine jyq (jri (i:=0)) ?_;refine jyq jrdr ?_;refine jyq (jrv8 .i64) ?_;refine jU 70 ?_;refine jyq (jrsf (hz1:=(show (1:Int)=((1:Nat):Int) from rfl))) ?_;refine jU 78807070 ?_
 obtain ⟨c,hc⟩:∃ c,c=(b.getD 0 0).toNat:=⟨_,rfl⟩
 obtain ⟨r,hr⟩:∃ r,r=b.drop 1:=⟨_,rfl⟩
 have c8:c<256:=by rw [hc];exact (b.getD 0 0).toNat_lt
 have hM:=measM_ne (by omega) hc hr
 refine jE (weaken 5 (.c (.int .i64 (c:Nat))) (cI (by rw [hc]))) ?_;refine jE (weaken 0 (bsC r) (CEnt.bs hr.symm)) ?_;refine jU 5216 ?_;refine jF3 8000300070005111116 121620751916810 (fun h76=>?_) fun h76=>?_
 ·rw [hM,if_pos (by omega)]
  exact CEnt.tup3 cZ cZ CEnt.nil
 refine jF4 790005110000000044 5150021 29 (fun g81=>?_) fun g81=>?_
 ·refine jcd (oN 0 4) ?_;refine jU 80003000500070008807070704000000 ?_
  rw [hM,if_neg (by omega),if_pos (by omega)]
  exact CEnt.tup3 cZ cN cZ
 refine jF3 0 5121316 (fun h81=>?_) fun h81=>?_
 ·refine jcs ?_;refine jcd (oN 0 4) ?_;refine jU 80003000500070008807070704000000 ?_
  rw [hM,if_neg (by omega),if_pos (by omega)]
  exact CEnt.tup3 cZ cN cZ
 refine jF3 0 840010 (fun h83=>?_) fun h83=>?_
 ·refine jcs ?_;refine jcd (oN 0 4) ?_;refine jyq (jrde 1) ?_;refine jU 8000300050007000880707070 ?_
  rw [hM,if_neg (by omega),if_neg (by omega),if_pos (by omega)]
  exact CEnt.tup3 cZ cN cZ
 obtain ⟨w,hw⟩:∃ w,w=c-128:=⟨_,rfl⟩
 have hwr:w≤r.length:=by omega
 refine jE (weaken 6 (.c (.int .i64 (w:Nat))) (cI (by omega))) ?_;refine jU 7516 ?_
 have htl:(r.take w).length=w:=by simp;omega
 refine jU 2051390000000116 ?_
 refine jlp (α:=Nat) [7,7,9,9,44,53] (fun i=>[(7,.c (.int .i64 (beN ((r.take w).take i):Nat))),(44,.c (.int .i64 (i:Nat)))]) (fun _=>[]) (fun i=>i≤w) (fun i=>w-i) 0 (hr:=?_)
 rintro i (hi:i≤w)
 have htl:(r.take w).length=w:=by simp;omega
 refine jU 7526 ?_;refine jF3 207810 784000200020006000 (fun h87=>?_) fun h87=>?_
 ·have htl:(r.take w).length=w:=by simp;omega
  refine jU 51607006 ?_
  have hbn:=beN_lt ((r.take w).take i)
  have hbl:((r.take w).take i).length=i:=by simp;omega
  have hb3:beN ((r.take w).take i)<16777216:=by
   rw [hbl] at hbn
   have:i≤3:=by omega
   have:=Nat.pow_le_pow_right (n:=256) (by decide) this
   omega
  have hc8:=((r.take w).getD i 0).toNat_lt
  refine jU 1200 ?_;refine jq (rd_shl rfl rfl rfl (by (omega)) (((beN ((r.take w).take i) * 256:Nat):Int)) ((by show IntKind.i64.wrap (((beN ((r.take w).take i):Nat):Int) * 2 ^ 8)=_;rw [IntWalk.i64_in _ (by omega)];omega))) ?_;refine jU 8400519700000001 ?_
  have htl:(r.take w).length=w:=by simp;omega
  refine jU 8519200 ?_
  exact jlend (i+1) (h5:=by exact .cons (cI (by rw [beN_take (by omega)];omega)) (.cons cZ .nil))
 have hiw:i=w:=by omega
 have htt:(r.take w).take i=r.take (c-128):=by rw [hiw,hw,List.take_take,Nat.min_self]
 refine jE (weaken 7 (.c (.int .i64 (beN (r.take (c-128)):Nat))) (cI (by rw [htt]))) ?_;refine jU 1216 ?_;refine jF4 7900051000000004444 550026020000001 56 (fun g90=>?_) fun g90=>?_
 ·refine jcd (oN 0 4) ?_;refine jU 8000300070008807070704000000 ?_
  rw [hM,if_neg (by omega),if_neg (by omega),if_neg (by omega),if_pos (by omega)]
  exact CEnt.tup3 cZ cN cZ
 refine jF3 0 7810 (fun h90=>?_) fun h90=>?_
 ·refine jcs ?_;refine jcd (oN 0 4) ?_;refine jU 8000300070008807070704000000 ?_
  rw [hM,if_neg (by omega),if_neg (by omega),if_neg (by omega),if_pos (by omega)]
  exact CEnt.tup3 cZ cN cZ
 refine jcd (oN 0 7) ?_;refine jU 707070 ?_;refine jyq jrsf ?_;refine jU 80007000880707070 ?_
 rw [hM,if_neg (by omega),if_neg (by omega),if_neg (by omega),if_neg (by omega)]
 refine CEnt.tup3 cZ (CEnt.bs ?_) CEnt.nil
 rw [hw]
end
section
variable {gs:List Nat} [Ok9 gs]

theorem CEnt.el {t u:Nat} {l m:List UInt8} (h1:t=u) (h2:l=m):CEnt (elC t l) (elC u m):=by subst h1 h2;exact cZ
theorem next_ac (b:List UInt8) (hb:b.length≤10000000):ACp gs Tryz.prog 116 [bsC b] (.tup 3 (fl [elC (nextM b).tag (nextM b).body,bsC (nextM b).rest,.err (nextM b).e])):=by
 have hml:=measM_rest (b.drop 1)
 refine ac_oF 56 Tryz.func116 fun al w0 F0 St0=>?_;refine jcr ?_
 refine jqe (jeal (n:=2) zr130 rfl fun p1=>?_)
 refine jU 523167511 ?_;refine jF3 0 7517000000060200000016810 (fun h98=>?_) fun h98=>?_
 ·refine jcs ?_;refine jcdZ (oT [0,2,5,6,8] .done) ?_;refine jzq (rd_build (n:=2) rfl zr130 pl130 rfl rfl) ?_;refine jzq (jrde 1) ?_
  refine jzm (jmst 2 ?_)
  refine jU 8700000400000400000 ?_
  refine jR (jtr (jrt (hres:=res_3 rfl (javA 2) javt javt) (hv:=?_)))
  have:b.length=0:=by omega
  unfold nextM
  rw [if_pos this]
  exact CEnt.tup3 (CEnt.agg2 cZ cN) cN cZ
 obtain ⟨t,ht⟩:∃ t,t=(b.getD 0 0).toNat:=⟨_,rfl⟩
 refine jE (weaken 5 (.c (.int .i64 (t:Nat))) (cI (by rw [ht]))) ?_;refine jU 16 ?_;refine jF1 530 (known_ac _) ?_;refine jF3 0 810 (fun h102=>?_) fun h102=>?_
 ·refine jcs ?_;refine jcdZ (oT [0,2,5,6,8] .done) ?_;refine jzq (rd_build (n:=2) rfl zr130 pl130 rfl rfl) ?_;refine jzq (jrde 4) ?_
  refine jzm (jmst 2 ?_)
  refine jU 8700000400000400000 ?_
  refine jR (jtr (jrt (hres:=res_3 rfl (javA 2) javt javt) (hv:=?_)))
  have hk:knownM (t:Nat)=false:=by simpa using h102
  unfold nextM
  rw [if_neg (by omega),if_pos (by rw [← ht];exact hk)]
  exact CEnt.tup3 (CEnt.agg2 cZ cN) cN cZ
 have hk:knownM (t:Nat)=true:=by simpa using h102
 have hN:=nextM_ne (by omega) ht hk rfl
 refine jU 16 ?_;refine jq (jrsf (hz1:=(show (1:Int)=((1:Nat):Int) from rfl))) ?_;refine jF1 515000001620751119009009001 (measure_ac _) ?_;refine jF3 0 51216 (fun h107=>?_) fun h107=>?_
 ·refine jcr ?_;refine jq (rd_build (n:=2) rfl zr130 pl130 rfl rfl) ?_;refine jU 1 ?_;refine jF7 511 2 ?_
  refine jR (jbr (jtr (jrt (hres:=res_3 rfl (javA 2) javt javt) (hv:=?_))))
  rw [hN,if_pos (by omega)]
  exact CEnt.tup3 (CEnt.agg2 cZ cN) cN cZ
 refine jF3 0 5123116 (fun h109=>?_) fun h109=>?_
 ·refine jcs ?_;refine jcdZ (oT [0,2,5,6,8] .done) ?_;refine jzq (rd_build (n:=2) rfl zr130 pl130 rfl rfl) ?_;refine jzq (jrde 2) ?_
  refine jzm (jmst 2 ?_)
  refine jU 8700000400000400000 ?_
  refine jR (jbr (jtr (jrt (hres:=res_3 rfl (javA 2) javt javt) (hv:=?_))))
  rw [hN,if_neg (by omega),if_pos (by omega)]
  exact CEnt.tup3 (CEnt.agg2 cZ cN) cN cZ
 refine jF3 0 7840010 (fun h111=>?_) fun h111=>?_
 ·refine jcs ?_;refine jcdZ (oT [0,2,5,6,8] .done) ?_;refine jzq (rd_build (n:=2) rfl zr130 pl130 rfl rfl) ?_;refine jzq (jrde 1) ?_
  refine jzm (jmst 2 ?_)
  refine jU 8700000400000400000 ?_
  refine jR (jbr (jtr (jrt (hres:=res_3 rfl (javA 2) javt javt) (hv:=?_))))
  rw [hN,if_neg (by omega),if_neg (by omega),if_pos (by omega)]
  exact CEnt.tup3 (CEnt.agg2 cZ cN) cN cZ
 refine jcdB 10 (oT [0,2,4,6,12,14,16,9,10,19] .done) ?_;refine jU 707070 ?_;refine jyq jrst ?_;refine jU 7070 ?_;refine jyq jrsf ?_
 refine jye (jecP (clone8_ac ((measM (b.drop 1)).rest.take (measM (b.drop 1)).n) (by rw [List.length_take];have:=hml.1;rw [List.length_drop] at this;omega)) ?_)
 refine jyq (rd_build (n:=2) rfl zr130 pl130 rfl rfl) ?_
 refine jye (jecP (clone8_ac ((measM (b.drop 1)).rest.drop (measM (b.drop 1)).n) (by rw [List.length_drop];have:=hml.1;rw [List.length_drop] at this;omega)) ?_)
 refine jyd ?_
 show ASeq _ _ _ _ _ _
 refine jF7 8511 2 ?_
 refine jR (jrt (hres:=res_3 rfl (javA 2) javt javt) (hv:=?_))
 rw [hN,if_neg (by omega),if_neg (by omega),if_neg (by omega)]
 exact CEnt.tup3 (CEnt.agg2 cZ cZ) cZ CEnt.nil

theorem loopW_nil (rec:Nat→List UInt8→Nat×Nat) (set:Bool) (lv fuel:Nat) (last:List UInt8) (dp:Nat):loopW rec set lv fuel [] last dp=(dp,0):=by
 cases fuel <;> simp [loopW]
theorem loopW_step (rec:Nat→List UInt8→Nat×Nat) (set:Bool) (lv fuel:Nat) (b last:List UInt8) (dp:Nat) (hb:0<b.length) (hf:b.length≤fuel):loopW rec set lv fuel b last dp =
  if (nextM b).e≠0 then (0,(nextM b).e) else
  if lv≤1 then (0,6) else
  if (rec (nextM b).tag (nextM b).body).2≠0 then (0,(rec (nextM b).tag (nextM b).body).2) else
  if set=true∧Op.bytesLess (b.take (b.length-(nextM b).rest.length)) last=true then (0,7) else
  loopW rec set lv (fuel-1) (nextM b).rest (b.take (b.length-(nextM b).rest.length)) (max dp ((rec (nextM b).tag (nextM b).body).1+1)):=by
 obtain ⟨m,rfl⟩:∃ m,fuel=m+1:=⟨fuel-1,by omega⟩
 rw [loopW,if_neg (by omega)]
 rfl
structure WS where
 f:Nat
 b:List UInt8
 last:List UInt8
 dp:Nat
theorem whole_ac:∀ (lv tag:Nat) (body:List UInt8),lv<16→body.length≤1000000→ACp gs Tryz.prog 149 [elC tag body,.c (.int .i64 ((lv+1:Nat):Int))] (.tup 2 (fl [.c (.int .i64 (wholeM (lv+1) tag body).1),.err (wholeM (lv+1) tag body).2])):=by
 intro lv
 induction lv using Nat.strongRecOn with
 | _ lv ih =>
 intro tag body hlv hbody
 have ih':1≤lv→∀ (tag:Nat) (body:List UInt8),body.length≤1000000→ACp gs Tryz.prog 149 [elC tag body,.c (.int .i64 (lv:Nat))] (.tup 2 (fl [.c (.int .i64 (wholeM lv tag body).1),.err (wholeM lv tag body).2])):=fun h tag body hb=>by
  have:=ih (lv-1) (by omega) tag body (by omega) hb
  rwa [show lv-1+1=lv by omega] at this
 have hR:∀ t b,(wholeM lv t b).1≤lv+1∧(wholeM lv t b).2≤7:=fun t b=>wholeM_bd lv t b
 refine ac_oF 70 Tryz.func149 fun al w0 F0 St0=>?_;refine jcr ?_
 refine jqe (jebx 2 fun p1=>?_)
 refine jU 509067516511 ?_;refine jF1 530 (made_ac _) ?_;refine jF3 80003000700051116 810 (fun h134=>?_) fun h134=>?_
 ·have hmd:madeM (tag:Nat)=false:=decide_eq_false h134
  rw [wholeM,if_pos hmd]
  exact cT cZ CEnt.nil
 have hmd:madeM (tag:Nat)=true:=decide_eq_true (Decidable.not_not.1 h134)
 have hw0:wholeM (lv+1) tag body=loopW (wholeM lv) (decide (tag=49)) (lv+1) body.length body [] 1:=by
  rw [wholeM,if_neg (by rw [hmd];exact Bool.noConfusion)]
 refine jU 20515010067516 ?_
 refine jlp (α:=WS×Option Nat) [4,13,21,68] (fun (x,g)=>[(6,.c (.int .i64 (x.dp:Nat))),(7,bsC x.last),(8,bsC x.b)]) (fun (x,g)=>[(p1,.blk 2 (fl [.c (.int .i64 tag),bsC body]))]) (fun x=>x.1.b.length≤x.1.f∧x.1.b.length≤1000000∧x.1.dp≤lv+2∧loopW (wholeM lv) (decide (tag=49)) (lv+1) x.1.f x.1.b x.1.last x.1.dp=wholeM (lv+1) tag body) (fun x=>x.1.f) (⟨body.length,body,[],1⟩,none) (h0:=⟨Nat.le_refl _,hbody,by show 1≤lv+2;omega,hw0.symm⟩) (he:=.cons cZ (.cons cN (.cons cZ .nil))) (hH:=.same .nil) (hr:=?_)
 rintro ⟨x,g'⟩ ⟨hxf,hxb',hdp,hw⟩
 dsimp only at hxf hxb' hdp hw
 have hxb:x.b.length≤10000000:=by omega
 have hnb:=nextM_bd x.b
 refine jU 523167 ?_;refine jF3 1620810 800070005111684000200020006000 (fun h138=>?_) fun h138=>?_
 rotate_left
 ·have hnil:x.b=[]:=List.eq_nil_of_length_eq_zero (by omega)
  rw [← hw,hnil,loopW_nil]
  exact cT cZ CEnt.nil
 refine jF1 9009009001 (next_ac x.b hxb) ?_
 refine jqe (jeal (n:=2) zr130 rfl fun p2=>?_)
 refine jF7 5500000167511 2 ?_;refine jF3 800030005000300050003000700051116 52167810 (fun h140=>?_) fun h140=>?_
 ·rw [← hw,loopW_step _ _ _ _ _ _ _ (by omega) hxf,if_pos h140]
  exact cZ
 refine jF3 0 6810 (fun h143=>?_) fun h143=>?_
 ·refine jcs ?_;refine jcd (oN 0 3) ?_;refine jyq (jrde 5) ?_;refine jU 80003000500030005000300070008807070 ?_
  rw [← hw,loopW_step _ _ _ _ _ _ _ (by omega) hxf,if_neg h140,if_pos (by omega)]
  exact cZ
 refine jqo (jrdoA 2) ?_;refine jU 91 ?_
 refine jqe (jecP (ih' (by omega) (nextM x.b).tag (nextM x.b).body (by omega)) ?_ (ho:=rfl) (he:=(.cons (se rfl (CEnt.agg2 cZ cZ)) (.cons (se rfl (cI (by omega))) .nil))))
 refine jU 75119009001 ?_
 have hRx:=hR (nextM x.b).tag (nextM x.b).body
 refine jU 550000016 ?_;refine jF3 800030005000300050003000700051116 9313116810 (fun h147=>?_) fun h147=>?_
 ·rw [← hw,loopW_step _ _ _ _ _ _ _ (by omega) hxf,if_neg h140,if_neg (by omega),if_pos h147]
  exact cZ
 refine jq (jrst (hz2:=(show _=(((x.b.length-(nextM x.b).rest.length):Nat):Int) by omega))) ?_;refine jU 1250906751 ?_;refine jF4 11 911681030055004444 56 (fun g151=>?_) fun g151=>?_
 rotate_left
 ·refine jq (rd_max2 rfl rfl rfl) ?_;refine jU 84005111120051 ?_
  refine jlend (⟨x.f-1,(nextM x.b).rest,x.b.take (x.b.length-(nextM x.b).rest.length),max x.dp ((wholeM lv (nextM x.b).tag (nextM x.b).body).1+1)⟩,none) (h1:=?_) (h2:=?_) (h5:=by exact .cons (cI (by dsimp only;omega)) (.cons cZ (.cons cZ .nil))) (h7:=by exact .same .nil)
  ·exact ⟨by dsimp only;omega,by dsimp only;omega,by dsimp only;omega,by
    dsimp only
    rw [← hw,loopW_step _ _ _ _ _ _ _ (by omega) hxf,if_neg h140,if_neg (by omega),if_neg h147,if_neg (by
     rintro ⟨h1,h2⟩
     have h1:=of_decide_eq_true h1
     rw [← cmpL_lt] at h2
     have h2:=of_decide_eq_true h2
     omega)]⟩
  ·dsimp only
   omega
 refine jF1 51000000002 (compare8_ac (x.b.take (x.b.length-(nextM x.b).rest.length)) x.last) ?_;refine jF3 0 9116810 (fun h151=>?_) fun h151=>?_
 ·refine jcs ?_;refine jcd (oN 0 3) ?_;refine jyq (jrde 6) ?_;refine jU 80003000500030005000300070008807070 ?_
  rw [← hw,loopW_step _ _ _ _ _ _ _ (by omega) hxf,if_neg h140,if_neg (by omega),if_neg h147,if_pos ⟨decide_eq_true (by omega),by rw [← cmpL_lt];exact decide_eq_true (by omega)⟩]
  exact cZ
 refine jq (rd_max2 rfl rfl rfl) ?_;refine jU 84005111120051 ?_
 refine jlend (⟨x.f-1,(nextM x.b).rest,x.b.take (x.b.length-(nextM x.b).rest.length),max x.dp ((wholeM lv (nextM x.b).tag (nextM x.b).body).1+1)⟩,none) (h1:=?_) (h2:=?_) (h5:=by exact .cons (cI (by dsimp only;omega)) (.cons cZ (.cons cZ .nil))) (h7:=by exact .same .nil)
 ·exact ⟨by dsimp only;omega,by dsimp only;omega,by dsimp only;omega,by
   dsimp only
   rw [← hw,loopW_step _ _ _ _ _ _ _ (by omega) hxf,if_neg h140,if_neg (by omega),if_neg h147,if_neg (by
    rintro ⟨h1,h2⟩
    have h1:=of_decide_eq_true h1
    rw [← cmpL_lt] at h2
    have h2:=of_decide_eq_true h2
    omega)]⟩
 ·dsimp only
  omega
end
section
variable {gs:List Nat} [Ok9 gs]

theorem depth_ac (b:List UInt8) (hb:b.length≤10000000):ACp gs Tryz.prog 115 [bsC b] (.tup 2 (fl [.c (.int .i64 (depthM b).1),.err (depthM b).2])):=by
 have hnb:=nextM_bd b
 refine jF5 5231675116 30 Tryz.func115 fun al w0 F0 St0=>?_;refine jF3 0 16810 (fun h162=>?_) fun h162=>?_
 ·refine jcs ?_;refine jcd (oN 0 3) ?_;refine jyq (jrde 2) ?_;refine jU 8000300070008807070 ?_
  unfold depthM
  rw [if_pos (by omega)]
  exact cZ
 refine jF1 9009009001 (next_ac b hb) ?_
 refine jqe (jeal (n:=2) zr130 rfl fun p1=>?_)
 refine jF7 5150000016207511 2 ?_;refine jF3 800030005000700051116 512316 (fun h167=>?_) fun h167=>?_
 ·unfold depthM
  rw [if_neg (by omega),if_pos (by omega)]
  exact cZ
 refine jF3 0 6840010 (fun h169=>?_) fun h169=>?_
 ·refine jcs ?_;refine jcd (oN 0 3) ?_;refine jU 800030005000700088070704000000 ?_
  unfold depthM
  rw [if_neg (by omega),if_neg (by omega),if_pos (by omega)]
  exact cZ
 refine jqo (jrdoA 2) ?_
 refine jqe (jecP (whole_ac 15 (nextM b).tag (nextM b).body (by omega) (by omega)) ?_ (ho:=rfl) (he:=(.cons (se rfl (CEnt.agg2 cZ cZ)) (.cons (se rfl cZ) .nil))))
 refine jU 80007000511900900 ?_
 unfold depthM
 rw [if_neg (by omega),if_neg (by omega),if_neg (by omega)]
 exact cZ
theorem check_ac (b:List UInt8) (hb:b.length≤10000000):ACp gs Tryz.prog 76 [bsC b] (.err (depthM b).2):=by
 refine jF5 16516 11 Tryz.func76 fun al w0 F0 St0=>?_;refine jF1 51165119009001 (depth_ac b hb) ?_
 refine jR jrt
def ex3a:List UInt8:=[48,3,2,1,5]
def ex3b:List UInt8:=[48,129,3,2,1,5]
theorem rput_ac {gs:List Nat} (tag:Int) (body:List UInt8) (ht:0≤tag∧tag<256) (hb:body.length≤10000000):ACp gs Tryz.prog 141 [.c (.int .i64 tag),bsC body] (bsC (putL tag body)):=by
 have hl:=lenL_bd body.length
 refine jF5 80000016516 14 Tryz.func141 fun al w0 F0 St0=>?_;refine jF6 31 1 1 zr5 fun p1=>?_
 refine jqe (jecP (rlen_ac body.length (by omega)) ?_)
 refine seq_ent (blk_ent 0 rfl (Nat.le_refl _) (fun _=>rfl) (fl_by (l2:=[b8 tag.toNat]) (.cons (cI ((by rw [b8_mod];omega))) .nil))) ?_
 refine jqm (jab (l:=[b8 tag.toNat]) fun p2=>?_)
 refine jU 1 ?_
 refine jqm (jab fun p3=>?_)
 refine jU 51 ?_;refine jE (freeze 0 rfl) ?_;refine jE (thawB 4 ([b8 tag.toNat]++lenL body.length++body) rfl rfl (by rfl) rfl) ?_
 refine jR (jrt (hv:=CEnt.bs (by simp [putL,b8])))
end
section
variable {gs:List Nat} [Ok9 gs]

theorem grow8_ac {gs:List Nat} (n:Nat) (hn:n≤100000000000):AC gs Tryz.prog 167 [] [.c (.slice none 0 0),.c (.int .i64 (n:Nat))] (OwnQ 0 1 0 fun _=>.top):=by
 refine jF5 52167516 27 Tryz.func167 fun al w0 F0 St0=>?_;refine jF3 0 1167810 (fun h423=>?_) fun h423=>?_
 ·exfalso;omega
 refine jq (rd_capN rfl rfl Tryz.underlying58) ?_;refine jU 5216519931 ?_;refine jF3 11200 810 (fun h426=>?_) fun h426=>?_
 rotate_left
 ·refine jE (own_nil 0 1 (fun _=>.top) rfl) ?_;refine jU 70005116 ?_
  exact end_O 0 (.inl rfl) (res_1 rfl (arv_tmp rfl)) rfl rfl (Nat.le_refl _) (fun _=>rfl) (fun j hj=>absurd hj (Nat.not_lt_zero j))
 refine jq (rd_capN rfl rfl Tryz.underlying58) ?_;refine jq (rd_sliceN rfl rfl Tryz.underlying58 sz5 (bd_none _ _) (bd_some rfl (show _=((0:Nat):Int) by omega)) (by (omega)) (by (omega))) ?_;refine jU 1 ?_
 refine jqe (e_appZ (F:=fun _=>.top) rfl rfl rfl (show _=((n:Nat):Int) by omega) (by (omega)) Tryz.underlying58 Tryz.underlying3 sz5 (by decide) zr5 by5 (by (omega)) (by (omega)) rfl rfl rfl (fun p1=>?_))
 refine jU 31 ?_;refine jq (jrso (hl:=(bd_none _ _)) (hu:=(bd_some rfl (show _=((0:Nat):Int) by omega)))) ?_;refine jU 851 ?_
 skip
 refine jU 70005116 ?_
 exact end_O 0 (.inl rfl) (res_1 rfl (arv_tmp rfl)) rfl rfl (Nat.le_refl _) (fun _=>rfl) (fun j hj=>absurd hj (Nat.not_lt_zero j))
theorem concat8_ac {gs:List Nat} (ls:List (List UInt8)) (h:sumL ls≤10000000000) (hl:ls.length≤1000000):ACp gs Tryz.prog 137 [lbC ls] (bsC ls.flatten):=by
 refine jF5 20513167516516 36 Tryz.func137 fun al w0 F0 St0=>?_
 refine jlp (α:=Nat) [3,3,5,5,11,22] (fun i=>[(3,.c (.int .i64 (sumL (ls.take i):Nat))),(11,.c (.int .i64 (i:Nat)))]) (fun _=>[]) (fun i=>i≤ls.length) (fun i=>ls.length-i) 0 (hr:=?_)
 rintro i (hi:i≤ls.length)
 refine jU 7526 ?_;refine jF3 51607006207810 84000200020006000 (fun h493=>?_) fun h493=>?_
 ·have hs1:=sumL_take (ls:=ls) (i:=i) (by omega)
  have hs2:=sumL_le ls (i+1)
  refine jU 52165193116 ?_;refine jF3 0 8519200840010 (fun h495=>?_) fun h495=>?_
  ·exfalso;omega
  exact jlend (i+1)
 have hs3:=sumL_le ls i
 refine jU 16 ?_
 refine jqe (jecO (grow8_ac (sumL (ls.take i)) (by omega)) (fun p1=>?_))
 refine jU 2051316751 ?_
 refine jlp (α:=Nat×Option Nat) [6,6,8,8,27,34] (fun (j,g)=>[(6,.os 0 g 0 ((ls.take j).flatten).length 1),(27,.c (.int .i64 (j:Nat)))]) (fun (j,g)=>[(g,.blk ((ls.take j).flatten).length (byF (ls.take j).flatten))]) (fun j=>j.1≤ls.length) (fun j=>ls.length-j.1) (0,p1) (hH:=.blk rfl (fun j hj=>absurd hj (Nat.not_lt_zero j)) .nil) (hr:=?_)
 rintro ⟨j,g'⟩ (hj:j≤ls.length)
 refine jU 7526 ?_;refine jF3 51607006207810 511684000200020006000 (fun h503=>?_) fun h503=>?_
 rotate_left
 ·refine jE (freeze 0 rfl) ?_;refine jE (thawB 2 ((ls.take j).flatten) rfl rfl (by rfl) rfl) ?_;refine jU 80007000 ?_;refine CEnt.bs ?_
  grind
 have hf1:=sumL_take (ls:=ls) (i:=j) (by omega)
 have hf2:=sumL_le ls (j+1)
 have hf3:=flat_len (ls.take j)
 refine jU 11200 ?_
 refine jqm (jab fun p2=>?_)
 refine jU 8519200840051 ?_
 refine jlend (j+1,p2) (h5:=?_) (h7:=?_)
 ·simp only [flat_take (show j<ls.length by omega)]
  exact .cons cZ (.cons (cI (by omega)) .nil)
 ·simp only [flat_take (show j<ls.length by omega)]
  exact .same .nil
end
end Am
end Go.Proofs.YtnijncmifjnifaaGreatDoor
namespace Go.Proofs.YtnijncmifjnifaaGreatDoor
set_option linter.unusedVariables false
open Go.RowKit

def marks:List UInt8:=[201,202,203,204,205,206]
def Marked (w:World) (v:Value) (l:List UInt8):Prop :=
 ∃ g,v=.slice (some ⟨g,0,none⟩) l.length (l.length+6)∧l.length+6≤9223372036854775807∧∀ i,i<l.length+6→w.cell? ⟨g,i,none⟩=some (.int .u8 ((l++marks).getD i 0).toNat)
def MarkedAt (w:World) (g:Nat) (v:Value) (l:List UInt8):Prop :=
 v=.slice (some ⟨g,0,none⟩) l.length (l.length+6)∧l.length+6≤9223372036854775807∧∀ i,i<l.length+6→w.cell? ⟨g,i,none⟩=some (.int .u8 ((l++marks).getD i 0).toNat)
theorem Marked.below {a b:World} {v:Value} {l:List UInt8} (h:Marked a v l) (k:Below a.heap.size a b):Marked b v l:=by
 obtain ⟨g,rfl,h1,h2⟩:=h
 exact ⟨g,rfl,h1,fun i hi=>below_cell k (h2 i hi)⟩
theorem Marked.bs {w:World} {v:Value} {l:List UInt8} (h:Marked w v l):Bs w v l:=by
 obtain ⟨g,rfl,h1,h2⟩:=h
 grind [Bs.of_cells]

theorem info_byte:(Tryz.prog.info? 5).map (fun i=>(i.zero,i.size,i.bytes))=some (some (.int .u8 0),1,1):=by kernel_rfl

theorem bytes_one (l:List UInt8):∀ u ∈ l.map (fun c=>Value.int .u8 c.toNat),u.oneCell'=true:=by
 intro u hu
 obtain ⟨c,_,rfl⟩:=List.mem_map.1 hu
 rfl
theorem Bs.parts {w:World} {v:Value} {l:List UInt8} (h:Bs w v l) :
  ∃ ao cap,v=.slice ao l.length cap∧l.length≤cap∧cap≤9223372036854775807∧(ao=none→l.length=0∧cap=0) ∧
   ∀ ad,ao=some ad→∀ j u,(l.map fun c=>Value.int .u8 c.toNat)[j]?=some u→w.cell? (ad.add j)=some u:=by
 obtain ⟨ao,cap,rfl,h1,h2,h3,h4⟩:=h
 refine ⟨ao,cap,rfl,h1,h2,fun h=>⟨by have:=h3 h;omega,h3 h⟩,?_⟩
 intro ad had j u hu
 obtain ⟨hs,hc⟩:=h4 ad had
 obtain ⟨b,o,sp⟩:=ad
 grind [Addr.add_lit]

set_option maxHeartbeats 400000 in
theorem nbytes_new {w:World} {v:Value} {l:List UInt8} (h:Bs w v l) (hl:l.length≤1000000) :
  Calls Tryz.prog 21 #[v] w fun e w'=>∃ v',e=.returned v'∧MarkedAt w' w.heap.size v' l∧Below w.heap.size w w':=by
 obtain ⟨i,hi,hz0,hz1,hz2⟩:=info_parts info_byte
 obtain ⟨ao,cap,rfl,h1,h2,h3,h4⟩:=h.parts
 have h4':∀ w1,w.grownBy w1 none→∀ ad,ao=some ad→∀ j u,(l.map fun c=>Value.int .u8 c.toNat)[j]?=some u→w1.cell? (ad.add j)=some u :=
  fun w1 hg ad had j u hu=>hg.cell (h4 ad had j u hu) (by simp)
 have HL:Hid (l.length≤1000000):=hl
 clear h hl
 have b0:(0:Int)≤l.length:=by omega
 have b1:(l.length:Int)≤1000000:=by have:=HL.out;omega
 go_enter Tryz.func21,Tryz.ntmps21
 go_wp2_with (at_make;go_loud (refine wpList_make_own _ rfl _ _ 58 rfl w.heap.size 5 i (.int .u8 0) 1 Tryz.underlying58 hi hz0 hz1 _ _ _ (l.length+6) rfl rfl ?c1 ?c2 ?c3 (Nat.le_refl _) ?_))
 case c1=>omega
 case c2=>rw [hz2];omega
 case c3=>grind [maxLen]
 intro w1 ho1 hg1
 have hc1:=h4' w1 hg1
 clear h4 h4'
 go_wp2_with (at_builtin;go_loud (refine wpList_append_fits_any w1 rfl (.tmp 7) (.tmp 8) 58 rfl w.heap.size 5 i 1 Tryz.underlying58 hi hz1 _ _ _ _ rfl ho1 ao l.length cap _ rfl ?d1 h3 hc1 (bytes_one l) ?d2 ?_))
 case d1=>simp
 case d2=>omega
 intro w2 ho2 hg2
 clear hc1
 have ho2':=ho2.alloc (.cells #[.int .u8 201,.int .u8 202,.int .u8 203,.int .u8 204,.int .u8 205,.int .u8 206] 5)
 go_wp2_with (at_builtin;go_loud (refine wpList_append_fits _ rfl (.tmp 9) (.tmp 10) 58 rfl w.heap.size 5 i 1 Tryz.underlying58 hi hz1 _ _ _ _ rfl ho2' ⟨w2.heap.size,0,none⟩ 6 6 (marks.map fun c=>.int .u8 c.toNat) rfl rfl ?e1 (bytes_one _) ?e2 ?_))
 case e2=>omega
 case e1 =>
  intro j u hu
  match j,hu with
  | 0,hu=>simp [marks] at hu;subst hu;simp [Addr.add]
  | 1,hu=>simp [marks] at hu;subst hu;simp [Addr.add]
  | 2,hu=>simp [marks] at hu;subst hu;simp [Addr.add]
  | 3,hu=>simp [marks] at hu;subst hu;simp [Addr.add]
  | 4,hu=>simp [marks] at hu;subst hu;simp [Addr.add]
  | 5,hu=>simp [marks] at hu;subst hu;simp [Addr.add]
  | j+6,hu=>simp [marks] at hu
 intro w3 ho3 hg3
 have HB:Hid (Below w.heap.size w w3):=(((((Below.refl _ _).grown hg1 (Nat.le_refl _) (by simp)).grown hg2 hg1.size (by simp)).alloc (Nat.le_trans hg1.size hg2.size) _).grown hg3 (by have:=hg1.size;have:=hg2.size;simp;omega) (by simp))
 have HO:=Lib.hid ho3
 clear ho3 hg1 hg2 hg3 ho1 ho2 ho2'
 go_wp2
 go_ret
 refine ⟨_,rfl,⟨rfl,by have:=HL.out;omega,fun k hk=>?_⟩,HB.out⟩
 have:=HO.out.cellAt k (by omega)
 grind [marks]

theorem marks_get (i:Nat) (hi:i<6):((marks.getD i 0).toNat:Int)=201+i:=by
 match i,hi with
 | 0,_=>rfl
 | 1,_=>rfl
 | 2,_=>rfl
 | 3,_=>rfl
 | 4,_=>rfl
 | 5,_=>rfl

set_option maxRecDepth 100000 in
set_option maxHeartbeats 1000000 in
theorem kept_any {w:World} {v v2:Value} {l:List UInt8} (h:Marked w v l) (h2:Bs w v2 l) :
  Calls Tryz.prog 24 #[v,v2] w fun e w'=>e=.returned (.bool true)∧Below w.heap.size w w':=by
 have hb:=h.bs
 obtain ⟨g,rfl,hsz,hc⟩:=h
 obtain ⟨ao,cap,rfl,h1,h3,h4⟩:=h2.parts
 have s1:∀ n,(convert 58 9 (.slice (some ⟨g,0,none⟩) l.length (l.length+6))).run Tryz.prog (w.drewN n)=.ok (.string ⟨l.toArray⟩) (w.drewN n):=fun n =>
  run_string_bs (w:=w.drewN n) hb _ _ _ Tryz.underlying58 Tryz.underlying5 Tryz.underlying9
 have s2:∀ n,(convert 58 9 (.slice ao l.length cap)).run Tryz.prog (w.drewN n)=.ok (.string ⟨l.toArray⟩) (w.drewN n):=fun n =>
  run_string_bs (w:=w.drewN n) h2 _ _ _ Tryz.underlying58 Tryz.underlying5 Tryz.underlying9
 have s3:=s1 0
 have s4:=s2 0
 simp only [World.drewN] at s3 s4
 have HC:=Lib.hid hc
 clear hc hb h2 h4
 have b1:(l.length:Int)+6≤9223372036854775807:=by omega
 have b2:decide ((l.length:Int)+6<(l.length:Int)+6)=false:=by simp
 go_enter Tryz.func24,Tryz.ntmps24
 go_wp2
 go_quiet (fail)
 clear s1 s2 s3 s4 b2 h3 h1
 go_wp2
 go_loopw [6] (fun i wr=>∃ k:Nat,k≤6∧i=.int .i64 k∧Below w.heap.size w wr) (fun i _=>6-(intOf i).toNat)
 case atStart=>grind [below_drewN,Below.refl]
 case round =>
  obtain ⟨k,hk,rfl,hB⟩:=hrel
  have HSZ:=Lib.hid hsz
  clear hsz
  by_cases hlt:(k:Int)<6
  ·have hcx:=below_cell hB (HC.out (l.length+k) (by omega))
   have e:(((l++marks).getD (l.length+k) 0).toNat:Int)=201+k:=by
    rw [← marks_get k (by omega)]
    simp [List.getD,List.getElem?_append_right]
   rw [e] at hcx
   clear e
   have hw:IntKind.u8.wrap (201+(k:Int))=201+k:=IntWalk.u8_in _ ⟨by omega,by omega⟩
   go_wp2
   grind [intOf]
  ·go_wp2
   go_ret
   exact ⟨rfl,hB⟩
end Go.Proofs.YtnijncmifjnifaaGreatDoor
namespace Go.Proofs.YtnijncmifjnifaaGreatDoor
set_option linter.unusedVariables false
namespace Am
open Go.RowKit
section
variable {gs:List Nat} [Ok9 gs]
def markSV (l:List UInt8):SV where
 p St w v:=∃ g,St g∧MarkedAt w g v l
 st:=fun {St St' w w' v} hs hb ⟨g,h1,h2,h3,h4⟩=>⟨g,hs g h1,h2,h3,fun i hi=>cell_keep (fun cur t z hc=>hb g cur t z h1 hc) (h4 i hi)⟩
 one:=fun {St w v} ⟨g,h1,h2,h3,h4⟩=>by rw [h2];exact ⟨rfl,rfl⟩
def markC (l:List UInt8):CV:=.pv (markSV l)
theorem CEnt.mark {l:List UInt8}:CEnt (markC l) (bsC l):=fun al St w v ⟨g,h1,h2,h3,h4⟩=>by
 refine ⟨_,_,h2,by omega,h3,(fun h=>by cases h),fun a ha hn=>?_⟩
 cases ha
 refine ⟨rfl,h1,fun i j hi hj=>⟨_,by rw [show 0+(i * 1+j)=i by omega];exact h4 i (by omega),?_⟩⟩
 show _=_
 simp [List.getD,List.getElem?_append_left hi]
theorem nb_ac {gs:List Nat} (l:List UInt8) (hl:l.length≤1000000):ACp gs Tryz.prog 21 [bsC l] (markC l):=fun al w St F0 vals he hs hv=>by
 have h0:Bs w (vals.getD 0 undef) l:=bs_of_rep (hv 0)
 rw [vals1 hs]
 refine (nbytes_new h0 hl).mono ?_
 rintro e w' ⟨v',h1,h2,h3⟩
 have hlt:w.heap.size<w'.heap.size:=World.block_lt_of_cell? w' ⟨w.heap.size,0,none⟩ (h2.2.2 0 (by omega))
 refine ⟨v',_,[],fun b=>St b∨b=w.heap.size,h1,⟨rfl,rfl⟩,⟨w.heap.size,.inr rfl,h2⟩,⟨h3.os,h3.tape,h3.output,h3.size,fun k hk _=>h3.block k hk,fun b cur t z hb=>⟨cur,z,(h3.block b (Array.getElem?_eq_some_iff.1 hb).1).trans hb,rfl⟩⟩,fun _ h=>.inl h,fun b hb=>?_,fun b hb=>?_,HRel.none _ _ _ _ _⟩
 ·rcases hb with hb|rfl
  ·exact .inl hb
  ·exact .inr (.inl (Nat.le_refl _))
 ·rcases hb with hb|rfl
  ·exact Nat.lt_of_lt_of_le (he.s3 b hb) h3.size
  ·exact hlt
theorem kept_ac {gs:List Nat} (l:List UInt8):ACp gs Tryz.prog 24 [markC l,bsC l] (.c (.bool true)) :=
 ac_old fun al w St vals hs hv hr=>by
  obtain ⟨g,_,h1⟩:=hr 0
  have h2:Bs w (vals.getD 1 undef) l:=bs_of_rep (hr 1)
  rw [vals2 hv]
  exact kept_any ⟨g,h1⟩ h2
end
section
variable {gs:List Nat} [Ok9 gs]

def putE (tag:Int) (body:List UInt8):Nat:=if knownM tag=false then 5 else if 65530<body.length then 3 else 0
theorem known_bd {t:Int} (h:knownM t=true):0≤t∧t<256:=by
 unfold knownM madeM at h
 simp at h
 omega
theorem tput_ac (tag:Int) (body:List UInt8) (hb:body.length≤1000000):ACp gs Tryz.prog 131 [.agg 2 (fl [.c (.int .i64 tag),bsC body])] (.tup 2 (fl [bsC (if putE tag body=0 then putL tag body else []),.err (putE tag body)])):=by
 refine ac_oF 28 Tryz.func131 fun al w0 F0 St0=>?_;refine jcr ?_
 refine jqe (jebx 2 fun p1=>?_)
 refine jU 50906207511 ?_;refine jF1 5130 (known_ac _) ?_;refine jF3 0 5123501006 (fun h62=>?_) fun h62=>?_
 ·refine jcs ?_;refine jcd (oN 0 3) ?_;refine jyq (jrde 4) ?_;refine jU 80003000500070008807070 ?_
  have hk:knownM tag=false:=by simpa using h62
  have he:putE tag body=5:=by unfold putE;rw [if_pos hk]
  rw [he];exact cT cN cZ
 refine jF3 0 7840010 (fun h64=>?_) fun h64=>?_
 ·refine jcs ?_;refine jcd (oN 0 3) ?_;refine jyq (jrde 2) ?_;refine jU 80003000500070008807070 ?_
  have hk:knownM tag=true:=by simpa using h62
  have he:putE tag body=3:=by unfold putE;rw [if_neg (by rw [hk];exact Bool.noConfusion),if_pos (by omega)]
  rw [he];exact cT cN cZ
 have hk:knownM tag=true:=by simpa using h62
 have hkb:=known_bd hk
 have he:putE tag body=0:=by unfold putE;rw [if_neg (by rw [hk];exact Bool.noConfusion),if_neg (by omega)]
 have hlb:=lenL_bd body.length
 refine jcd (oT [0,2,4,8,10,12,16,18] (.two 3 (oT [15,21,23,24,26] .done) 7 (oT [7,21,23,24,26] .done))) ?_;refine jU 10000900000 ?_;refine jyq (jrv .i64 .u8) ?_;refine jU 10000800000020000100008000000 ?_;refine jytwo ?_ ?_
 ·refine jye (jebl 1 1 zr5 fun p2=>?_)
  refine jye (jecP (length_ac body.length (by omega)) ?_)
  refine x_ent (freeze 1 rfl) ?_;refine x_ent (thawBL 19 [UInt8.ofNat tag.toNat] rfl rfl rfl rfl (.cons (cI (by rw [UInt8.toNat_ofNat'];omega)) .nil)) ?_
  refine jye (jebl 3 1 zr58 fun p3=>?_)
  refine x_ent (freeze 2 rfl) ?_;refine x_ent (thawLB 26 [[UInt8.ofNat tag.toNat],lenL body.length,body] rfl rfl rfl rfl (.cons cZ (.cons cZ (.cons cZ .nil)))) ?_
  refine jye (jecP (concat8_ac [[UInt8.ofNat tag.toNat],lenL body.length,body] (by simp [sumL];omega) (by simp)) ?_)
  refine jU 8807070 ?_
  refine jR (jrt (hv:=cT (CEnt.bs (by rw [he,if_pos rfl];simp [putL])) (CEnt.nilE he)))
 ·refine jye (jecP (length_ac body.length (by omega)) ?_)
  refine jye (jebl 1 1 zr5 fun p2=>?_)
  refine x_ent (freeze 1 rfl) ?_;refine x_ent (thawBL 19 [UInt8.ofNat tag.toNat] rfl rfl rfl rfl (.cons (cI (by rw [UInt8.toNat_ofNat'];omega)) .nil)) ?_
  refine jye (jebl 3 1 zr58 fun p3=>?_)
  refine x_ent (freeze 2 rfl) ?_;refine x_ent (thawLB 26 [[UInt8.ofNat tag.toNat],lenL body.length,body] rfl rfl rfl rfl (.cons cZ (.cons cZ (.cons cZ .nil)))) ?_
  refine jye (jecP (concat8_ac [[UInt8.ofNat tag.toNat],lenL body.length,body] (by simp [sumL];omega) (by simp)) ?_)
  refine jU 8807070 ?_
  refine jR (jrt (hv:=cT (CEnt.bs (by rw [he,if_pos rfl];simp [putL])) (CEnt.nilE he)))
end
section
theorem cmp8_swap (a b:UInt8):cmp8 b a=- cmp8 a b:=by
 grind [cmp8]
theorem cmp8_zero {a b:UInt8} (h:cmp8 a b=0):a=b:=by
 grind [cmp8,UInt8.toNat_inj]
theorem cmp8_iff (a b:UInt8):(cmp8 a b<0↔a.toNat<b.toNat)∧(cmp8 a b≤0↔a.toNat≤b.toNat):=by
 grind [cmp8]
theorem cmpL_swap:∀ l r:List UInt8,cmpL r l=- cmpL l r
 | [],[]=>rfl
 | [],_::_=>rfl
 | _::_,[]=>rfl
 | a::l,b::r=>by
  have h:=cmp8_swap a b
  have ih:=cmpL_swap l r
  rw [cmpL,cmpL]
  by_cases e:cmp8 a b=0
  ·rw [if_neg (by omega),if_neg (by omega),ih]
  ·rw [if_pos (by omega),if_pos e,h]
theorem cmpL_zero:∀ {l r:List UInt8},cmpL l r=0→l=r
 | [],[],_=>rfl
 | [],_::_,h=>by simp [cmpL] at h
 | _::_,[],h=>by simp [cmpL] at h
 | a::l,b::r,h=>by
  rw [cmpL] at h
  by_cases e:cmp8 a b=0
  ·rw [if_neg (fun x=>x e)] at h
   rw [cmp8_zero e,cmpL_zero h]
  ·rw [if_pos e] at h;exact absurd h e
theorem cmpL_trans:∀ {a b c:List UInt8},cmpL a b≤0→cmpL b c≤0→cmpL a c≤0
 | [],_,[],_,_=>Int.le_refl 0
 | [],_,_::_,_,_=>by show (-1:Int)≤0;decide
 | _::_,[],_,h,_=>by simp [cmpL] at h
 | _::_,_::_,[],_,h=>by simp [cmpL] at h
 | x::a,y::b,z::c,h1,h2=>by
  rw [cmpL] at h1 h2 ⊢
  have k1:=cmp8_iff x y;have k2:=cmp8_iff y z;have k3:=cmp8_iff x z
  by_cases e1:cmp8 x y=0
  ·have e:=cmp8_zero e1
   subst e
   rw [if_neg (fun q=>q e1)] at h1
   by_cases e2:cmp8 x z=0
   ·rw [if_neg (fun q=>q e2)] at h2 ⊢
    exact cmpL_trans h1 h2
   ·rw [if_pos e2] at h2 ⊢;exact h2
  ·rw [if_pos e1] at h1
   by_cases e2:cmp8 y z=0
   ·have e:=cmp8_zero e2
    subst e
    rw [if_pos e1];exact h1
   ·rw [if_pos e2] at h2
    have e3:cmp8 x z≠0:=fun e=>by
     have:=cmp8_zero e
     subst this
     have:=cmp8_swap x y
     omega
    rw [if_pos e3]
    omega
theorem cmpL_self (l:List UInt8):cmpL l l=0:=by have:=cmpL_swap l l;omega
theorem cmpL_swo {α:Type} (L:α→List UInt8):Go.Sort.SWO (fun x y:α=>decide (cmpL (L x) (L y)<0)) where
 irrefl:=fun x=>by rw [cmpL_self];rfl
 trans:=fun x y z h1 h2=>by
  grind [cmpL_trans,cmpL_swap]
 ntrans:=fun x y z h1 h2=>by
  grind [cmpL_swap,cmpL_trans]
def leL (a b:List UInt8):Bool:=decide (cmpL a b≤0)
theorem leL_total (a b:List UInt8):(leL a b || leL b a)=true:=by
 grind [cmpL_swap,leL]
theorem leL_trans (a b c:List UInt8) (h1:leL a b=true) (h2:leL b c=true):leL a c=true:=by
 grind [leL,cmpL_trans]
theorem leL_anti {a b:List UInt8} (h1:leL a b=true) (h2:leL b a=true):a=b:=by
 grind [leL,cmpL_swap,cmpL_zero]
def sortL (ls:List (List UInt8)):List (List UInt8):=ls.mergeSort leL
theorem sortL_perm (ls:List (List UInt8)):(sortL ls).Perm ls:=List.mergeSort_perm ls leL
theorem sortL_sorted (ls:List (List UInt8)):(sortL ls).Pairwise fun a b=>leL a b=true:=List.pairwise_mergeSort leL_trans leL_total ls
theorem sorted_eq:∀ {l r:List (List UInt8)},l.Perm r→(l.Pairwise fun a b=>leL a b=true)→(r.Pairwise fun a b=>leL a b=true)→l=r
 | [],r,hp,_,_=>(List.nil_perm.1 hp).symm
 | a::l,[],hp,_,_=>absurd hp.symm.nil_eq (by simp)
 | a::l,b::r,hp,h1,h2=>by
  have ha:=List.pairwise_cons.1 h1
  have hb:=List.pairwise_cons.1 h2
  have e:a=b:=by
   have m1:a ∈ b::r:=hp.subset (List.mem_cons_self ..)
   have m2:b ∈ a::l:=hp.symm.subset (List.mem_cons_self ..)
   rcases List.mem_cons.1 m1 with h|h
   ·exact h
   ·rcases List.mem_cons.1 m2 with k|k
    ·exact k.symm
    ·exact leL_anti (ha.1 b k) (hb.1 a h)
  subst e
  rw [sorted_eq (List.perm_cons a |>.1 hp) ha.2 hb.2]
theorem sortL_of {l r:List (List UInt8)} (hp:l.Perm r) (h:l.Pairwise fun a b=>leL a b=true):l=sortL r:=sorted_eq (hp.trans (sortL_perm r).symm) h (sortL_sorted r)
theorem sortL_length (ls:List (List UInt8)):(sortL ls).length=ls.length:=(sortL_perm ls).length_eq
end
section
open Go.RowKit Go.Lib
def bt (l:List UInt8) (i:Nat):Nat:=(l.getD i 0).toNat
theorem bt_lt (l:List UInt8) (i:Nat):bt l i<256:=UInt8.toNat_lt _
def dec1 (l:List UInt8):Nat×Nat:=Lib.decodeN l.length (bt l 0) (bt l 1) (bt l 2) (bt l 3)
theorem ba_bang (l:List UInt8) (i:Nat):((⟨l.toArray⟩:ByteArray).get! i).toNat=bt l i:=by
 show (l.toArray[i]!).toNat=_
 simp [bt,List.getD]
 rfl
theorem decodeL_dec1 (l:List UInt8):decodeL l=dec1 l:=by
 unfold decodeL dec1
 rw [Lib.decode_at,ba_bang,ba_bang,ba_bang,ba_bang]
 rfl
theorem dec1_width (l:List UInt8):1≤(dec1 l).2∧(dec1 l).2≤4:=by
 grind [dec1,Lib.decodeN]
def badR (c:Nat):Bool:=decide (c<32) || decide (c=127)
def plainGo:Nat→List UInt8→Bool
 | 0,_=>true
 | n+1,l=>if l=[] then true else if ((dec1 l).1=65533∧(dec1 l).2=1)∨badR (dec1 l).1=true then false else plainGo n (l.drop (dec1 l).2)
def plainM (l:List UInt8):Bool:=plainGo l.length l
def noBad:Nat→List UInt8→Bool
 | 0,_=>true
 | n+1,l=>if l=[] then true else if badR (dec1 l).1=true then false else noBad n (l.drop (dec1 l).2)
theorem plain_two:∀ (n:Nat) (l:List UInt8),plainGo n l=(noBad n l && validGoD n l)
 | 0,l=>rfl
 | n+1,l=>by
  rw [plainGo,noBad,validGoD,plain_two n,decodeL_dec1]
  by_cases h:l=[]
  ·simp [h]
  ·rw [if_neg h,if_neg h,if_neg h]
   by_cases h1:badR (dec1 l).1=true
   ·simp [h1]
   ·by_cases h2:(dec1 l).1=65533∧(dec1 l).2=1
    ·simp [h2]
    ·rw [if_neg (by simp [h1];intro h3 h4;exact h2 ⟨h3,h4⟩),if_neg h1,if_neg h2]
theorem fuel_plain:∀ (n m:Nat) (l:List UInt8),l.length≤n→l.length≤m→plainGo n l=plainGo m l
 | 0,m,l,h,_=>by
  have:l=[]:=List.length_eq_zero_iff.1 (by omega)
  subst this
  cases m <;> simp [plainGo]
 | n+1,0,l,_,h=>by
  have:l=[]:=List.length_eq_zero_iff.1 (by omega)
  subst this
  simp [plainGo]
 | n+1,m+1,l,h1,h2=>by
  rw [plainGo,plainGo]
  by_cases h:l=[]
  ·simp [h]
  ·have hw:=(dec1_width l).1
   have hp:=List.length_pos_iff.2 h
   rw [fuel_plain n m _ (by simp;omega) (by simp;omega)]
theorem plainM_step {l:List UInt8} (h:l≠[]):plainM l=if ((dec1 l).1=65533∧(dec1 l).2=1)∨badR (dec1 l).1=true then false else plainM (l.drop (dec1 l).2):=by
 have hp:=List.length_pos_iff.2 h
 have hw:=(dec1_width l).1
 unfold plainM
 obtain ⟨n,hn⟩:∃ n,l.length=n+1:=⟨l.length-1,by omega⟩
 grind [plainGo,fuel_plain]
theorem noBad_step {n:Nat} {l:List UInt8} (h:l≠[]):noBad (n+1) l=if badR (dec1 l).1=true then false else noBad n (l.drop (dec1 l).2):=by rw [noBad,if_neg h]
theorem noBad_fuel:∀ (n m:Nat) (l:List UInt8),l.length≤n→l.length≤m→noBad n l=noBad m l
 | 0,m,l,h,_=>by
  have:l=[]:=List.length_eq_zero_iff.1 (by omega)
  subst this
  cases m <;> simp [noBad]
 | n+1,0,l,_,h=>by
  have:l=[]:=List.length_eq_zero_iff.1 (by omega)
  subst this
  simp [noBad]
 | n+1,m+1,l,h1,h2=>by
  rw [noBad,noBad]
  by_cases h:l=[]
  ·simp [h]
  ·have hw:=(dec1_width l).1
   have hp:=List.length_pos_iff.2 h
   rw [noBad_fuel n m _ (by simp;omega) (by simp;omega)]
def noBadM (l:List UInt8):Bool:=noBad l.length l
theorem noBadM_step {l:List UInt8} (h:l≠[]):noBadM l=if badR (dec1 l).1=true then false else noBadM (l.drop (dec1 l).2):=by
 have hp:=List.length_pos_iff.2 h
 have hw:=(dec1_width l).1
 unfold noBadM
 obtain ⟨n,hn⟩:∃ n,l.length=n+1:=⟨l.length-1,by omega⟩
 grind [noBad_step,noBad_fuel]
theorem plainM_two (l:List UInt8):plainM l=(noBadM l && validD l):=plain_two _ _
theorem ref_ascii {l:List UInt8} (h:l≠[]) (h0:bt l 0<128):plainM l=if bt l 0<32∨bt l 0=127 then false else plainM (l.drop 1):=by
 grind [dec1,Lib.decodeN,plainM_step,badR]
theorem ref_bad {l:List UInt8} (h:l≠[]) (hd:dec1 l=(65533,1)):plainM l=false:=by
 grind [plainM_step]
theorem ref_good {l:List UInt8} (h:l≠[]) {c w:Nat} (hd:dec1 l=(c,w)) (hc:128≤c) (hw:2≤w):plainM l=plainM (l.drop w):=by
 grind [plainM_step,badR]
theorem dec_head_bad {l:List UInt8} (h:128≤bt l 0) (h2:bt l 0<192∨248≤bt l 0):dec1 l=(65533,1):=by
 grind [dec1,Lib.decodeN]
theorem dec_two {l:List UInt8} (h:192≤bt l 0) (h2:bt l 0<224):dec1 l=if l.length≤1∨bt l 1<128∨191<bt l 1∨(bt l 0-192) * 64+bt l 1-128<128 then (65533,1) else ((bt l 0-192) * 64+bt l 1-128,2):=by
 grind [dec1,Lib.decodeN]
theorem dec_three {l:List UInt8} (h:224≤bt l 0) (h2:bt l 0<240):dec1 l=if l.length≤2∨(bt l 1<128∨191<bt l 1)∨(bt l 2<128∨191<bt l 2)∨((bt l 0-224) * 64+bt l 1-128) * 64+bt l 2-128<2048∨(55296≤((bt l 0-224) * 64+bt l 1-128) * 64+bt l 2-128∧((bt l 0-224) * 64+bt l 1-128) * 64+bt l 2-128<57344) then (65533,1) else (((bt l 0-224) * 64+bt l 1-128) * 64+bt l 2-128,3):=by
 grind [dec1,Lib.decodeN]
theorem dec_four {l:List UInt8} (h:240≤bt l 0) (h2:bt l 0<248):dec1 l=if l.length≤3∨(bt l 1<128∨191<bt l 1)∨(bt l 2<128∨191<bt l 2)∨(bt l 3<128∨191<bt l 3)∨(((bt l 0-240) * 64+bt l 1-128) * 64+bt l 2-128) * 64+bt l 3-128<65536∨1114111<(((bt l 0-240) * 64+bt l 1-128) * 64+bt l 2-128) * 64+bt l 3-128 then (65533,1) else ((((bt l 0-240) * 64+bt l 1-128) * 64+bt l 2-128) * 64+bt l 3-128,4):=by
 have:=bt_lt l 1
 have:=bt_lt l 2
 have:=bt_lt l 3
 unfold dec1 Lib.decodeN
 grind
def askedM (l:List UInt8) (most:Int):Nat:=if l.length=0 then 2 else if most<l.length then 3 else if plainM l=false then 8 else 0
end
section
def rev8T:List UInt8:=[0,128,64,192,32,160,96,224,16,144,80,208,48,176,112,240,8,136,72,200,40,168,104,232,24,152,88,216,56,184,120,248,4,132,68,196,36,164,100,228,20,148,84,212,52,180,116,244,12,140,76,204,44,172,108,236,28,156,92,220,60,188,124,252,2,130,66,194,34,162,98,226,18,146,82,210,50,178,114,242,10,138,74,202,42,170,106,234,26,154,90,218,58,186,122,250,6,134,70,198,38,166,102,230,22,150,86,214,54,182,118,246,14,142,78,206,46,174,110,238,30,158,94,222,62,190,126,254,1,129,65,193,33,161,97,225,17,145,81,209,49,177,113,241,9,137,73,201,41,169,105,233,25,153,89,217,57,185,121,249,5,133,69,197,37,165,101,229,21,149,85,213,53,181,117,245,13,141,77,205,45,173,109,237,29,157,93,221,61,189,125,253,3,131,67,195,35,163,99,227,19,147,83,211,51,179,115,243,11,139,75,203,43,171,107,235,27,155,91,219,59,187,123,251,7,135,71,199,39,167,103,231,23,151,87,215,55,183,119,247,15,143,79,207,47,175,111,239,31,159,95,223,63,191,127,255]
def len8T:List UInt8:=[0,1,2,2,3,3,3,3,4,4,4,4,4,4,4,4,5,5,5,5,5,5,5,5,5,5,5,5,5,5,5,5,6,6,6,6,6,6,6,6,6,6,6,6,6,6,6,6,6,6,6,6,6,6,6,6,6,6,6,6,6,6,6,6,7,7,7,7,7,7,7,7,7,7,7,7,7,7,7,7,7,7,7,7,7,7,7,7,7,7,7,7,7,7,7,7,7,7,7,7,7,7,7,7,7,7,7,7,7,7,7,7,7,7,7,7,7,7,7,7,7,7,7,7,7,7,7,7,8,8,8,8,8,8,8,8,8,8,8,8,8,8,8,8,8,8,8,8,8,8,8,8,8,8,8,8,8,8,8,8,8,8,8,8,8,8,8,8,8,8,8,8,8,8,8,8,8,8,8,8,8,8,8,8,8,8,8,8,8,8,8,8,8,8,8,8,8,8,8,8,8,8,8,8,8,8,8,8,8,8,8,8,8,8,8,8,8,8,8,8,8,8,8,8,8,8,8,8,8,8,8,8,8,8,8,8,8,8,8,8,8,8,8,8,8,8,8,8,8,8,8,8,8,8,8,8]
def ntz8T:List UInt8:=[8,0,1,0,2,0,1,0,3,0,1,0,2,0,1,0,4,0,1,0,2,0,1,0,3,0,1,0,2,0,1,0,5,0,1,0,2,0,1,0,3,0,1,0,2,0,1,0,4,0,1,0,2,0,1,0,3,0,1,0,2,0,1,0,6,0,1,0,2,0,1,0,3,0,1,0,2,0,1,0,4,0,1,0,2,0,1,0,3,0,1,0,2,0,1,0,5,0,1,0,2,0,1,0,3,0,1,0,2,0,1,0,4,0,1,0,2,0,1,0,3,0,1,0,2,0,1,0,7,0,1,0,2,0,1,0,3,0,1,0,2,0,1,0,4,0,1,0,2,0,1,0,3,0,1,0,2,0,1,0,5,0,1,0,2,0,1,0,3,0,1,0,2,0,1,0,4,0,1,0,2,0,1,0,3,0,1,0,2,0,1,0,6,0,1,0,2,0,1,0,3,0,1,0,2,0,1,0,4,0,1,0,2,0,1,0,3,0,1,0,2,0,1,0,5,0,1,0,2,0,1,0,3,0,1,0,2,0,1,0,4,0,1,0,2,0,1,0,3,0,1,0,2,0,1,0]
def rev8 (n:Nat):Nat:=(List.range 8).foldl (fun a i=>a+n / 2 ^ i % 2 * 2 ^ (7-i)) 0
def len8 (n:Nat):Nat:=(List.range 8).foldl (fun a i=>if n / 2 ^ i % 2=1 then i+1 else a) 0
def ntz8 (n:Nat):Nat:=(List.range 8).foldr (fun i a=>if n / 2 ^ i % 2=1 then i else a) 8
theorem all_lt {n:Nat} {p:Nat→Bool} (h:(List.range n).all p=true) {i:Nat} (hi:i<n):p i=true:=List.all_eq_true.1 h i (List.mem_range.2 hi)
theorem all_lt2 {n m:Nat} {p:Nat→Nat→Bool} (h:((List.range n).all fun i=>(List.range m).all fun j=>p i j)=true) {i j:Nat} (hi:i<n) (hj:j<m):p i j=true:=all_lt (all_lt h hi) hj
theorem rev8_lt {i:Nat} (h:i<256):rev8 i<256:=by
 have:=all_lt (n:=256) (p:=fun i=>decide (rev8 i<256)) (by decide +kernel) h
 simpa using this
theorem len8_bd {i:Nat} (h:i<256):i<2 ^ len8 i∧len8 i≤8∧(len8 i=0∨2 ^ (len8 i-1)≤i):=by
 have:=all_lt (n:=256) (p:=fun i=>decide (i<2 ^ len8 i∧len8 i≤8∧(len8 i=0∨2 ^ (len8 i-1)≤i))) (by decide +kernel) h
 simpa using this
theorem rev8_add {c v:Nat} (hc:c<8) (hv:v<2 ^ c):rev8 (v+2 ^ c)=rev8 v+2 ^ (7-c):=by
 have hb:v<256:=Nat.lt_of_lt_of_le hv (Nat.pow_le_pow_right (n:=2) (by decide) (show c≤8 by omega))
 have:=all_lt2 (n:=8) (m:=256) (p:=fun c v=>decide (v<2 ^ c→rev8 (v+2 ^ c)=rev8 v+2 ^ (7-c))) (by decide +kernel) hc hb
 simp_all
def IsBl (m n:Nat):Prop:=m<2 ^ n∧(n=0∨2 ^ (n-1)≤m)
theorem isBl_unique {m n k:Nat} (h:IsBl m n) (h':IsBl m k):n=k:=by
 obtain ⟨h1,h2⟩:=h
 obtain ⟨h3,h4⟩:=h'
 rcases Nat.lt_trichotomy n k with hlt|he|hlt
 ·have:=Nat.pow_le_pow_right (n:=2) (by decide) (show n≤k-1 by omega)
  omega
 ·exact he
 ·have:=Nat.pow_le_pow_right (n:=2) (by decide) (show k≤n-1 by omega)
  omega
def bl (m:Nat):Nat:=if 256≤m then 8+len8 (m / 256) else len8 m
theorem bl_is {m:Nat} (h:m<65536):IsBl m (bl m)∧bl m≤16:=by
 unfold bl
 split
 ·obtain ⟨h1,h2,h3⟩:=len8_bd (i:=m / 256) (by omega)
  refine ⟨⟨?_,?_⟩,by omega⟩
  ·grind
  ·right
   rcases h3 with h3|h3
   ·grind
   ·rw [show 8+len8 (m / 256)-1=8+(len8 (m / 256)-1) by
     grind,Nat.pow_add]
    omega
 ·obtain ⟨h1,h2,h3⟩:=len8_bd (i:=m) (by omega)
  exact ⟨⟨h1,h3⟩,by omega⟩
theorem mod_step (M i:Nat):M % 2 ^ (i+1)=M % 2 ^ i+M / 2 ^ i % 2 * 2 ^ i:=by
 rw [Nat.pow_succ,Nat.mod_mul,Nat.mul_comm (2 ^ i)]
theorem isBl_step {M i n:Nat} (h:IsBl (M % 2 ^ i) n) (hn:n≤i):IsBl (M % 2 ^ (i+1)) (if M / 2 ^ i % 2=1 then i+1 else n):=by
 have hlt:=Nat.mod_lt M (Nat.two_pow_pos i)
 rw [mod_step]
 split
 ·rename_i hb
  rw [hb,Nat.one_mul]
  exact ⟨by omega,.inr (by simp)⟩
 simp_all

def rev16 (x:Nat):Nat:=rev8 (x / 256)+256 * rev8 (x % 256)
def flagsL (m:Nat):List UInt8:=UInt8.ofNat ((8-bl m % 8) % 8)::(if bl m=0 then [] else if bl m≤8 then [UInt8.ofNat (rev8 (m % 256))] else [UInt8.ofNat (rev8 (m % 256)),UInt8.ofNat (rev8 (m / 256))])
def maskM (b:List UInt8):Nat×Nat :=
 if b.length=0 then (0,2) else
 if 8≤(b.getD 0 0).toNat∨3<b.length∨(b.length=1∧0<(b.getD 0 0).toNat) then (0,4) else
 if b.length=1 then (0,0) else
 if ntz8 (b.getD (b.length-1) 0).toNat≠(b.getD 0 0).toNat then (0,4) else
 let m:=rev8 (b.getD 1 0).toNat+256 * (if b.length=3 then rev8 (b.getD 2 0).toNat else 0)
 if 32768≤m then (0,1) else (m,0)
theorem maskM_bd (b:List UInt8):(maskM b).2≤4∧(maskM b).1<32768:=by
 grind [maskM]
end
section
theorem u8_ofNat {n:Nat} (h:n<256):(UInt8.ofNat n).toNat=n:=by
 simp_all
theorem flags_len {m:Nat} (h:m<65536):(flagsL m).length=1+(bl m+7) / 8:=by
 grind [bl_is,flagsL]
def lo8 (M i:Nat):Nat:=M % 2 ^ (min i 8)
def hi8 (M i:Nat):Nat:=M / 256 % 2 ^ (i-8)
def gF (M n i j:Nat):Nat:=if j=0 then (8-n % 8) % 8 else if j=1 then rev8 (lo8 M i) else rev8 (hi8 M i)
theorem lo8_lt (M i:Nat):lo8 M i<256:=Nat.lt_of_lt_of_le (Nat.mod_lt _ (Nat.two_pow_pos _)) (Nat.pow_le_pow_right (n:=2) (by decide) (Nat.min_le_right i 8))
theorem hi8_lt {M i:Nat} (h:M<65536):hi8 M i<256:=Nat.lt_of_le_of_lt (Nat.mod_le _ _) (by omega)
theorem gF_lt {M n i j:Nat} (h:M<65536):gF M n i j<256:=by
 grind [gF,rev8_lt,lo8_lt,hi8_lt]
theorem gF_zero {M n j:Nat} (hj:j≠0):gF M n 0 j=0:=by
 unfold gF lo8 hi8
 rw [if_neg hj]
 simp only [Nat.zero_min,Nat.zero_sub,Nat.pow_zero,Nat.mod_one]
 split <;> rfl
theorem gF_off {M n i j:Nat} (hb:M / 2 ^ i % 2=0):gF M n (i+1) j=gF M n i j:=by
 have hl:lo8 M (i+1)=lo8 M i:=by
  unfold lo8
  by_cases h:i<8
  ·grind [mod_step]
  ·grind
 have hh:hi8 M (i+1)=hi8 M i:=by
  unfold hi8
  by_cases h:i<8
  ·grind
  ·rw [show i+1-8=(i-8)+1 by omega,mod_step,Nat.div_div_eq_div_mul,show 256 * 2 ^ (i-8)=2 ^ i by rw [show i=8+(i-8) by omega,Nat.pow_add];simp,hb,Nat.zero_mul,Nat.add_zero]
 unfold gF;rw [hl,hh]
theorem gF_on {M n i j:Nat} (hb:M / 2 ^ i % 2=1) (hi:i<16) (hj:j≤2):gF M n (i+1) j=if j=1+i / 8 then gF M n i j+2 ^ (7-i % 8) else gF M n i j:=by
 by_cases h:i<8
 ·have hl:lo8 M (i+1)=lo8 M i+2 ^ i:=by
   unfold lo8
   rw [Nat.min_eq_left (by omega),Nat.min_eq_left (by omega),mod_step,hb,Nat.one_mul]
  grind [hi8,lo8,Nat.mod_lt,rev8_add,gF]
 ·have hl:lo8 M (i+1)=lo8 M i:=by
   unfold lo8
   rw [Nat.min_eq_right (by omega),Nat.min_eq_right (by omega)]
  have hh:hi8 M (i+1)=hi8 M i+2 ^ (i-8):=by
   unfold hi8
   rw [show i+1-8=(i-8)+1 by omega,mod_step,Nat.div_div_eq_div_mul,show 256 * 2 ^ (i-8)=2 ^ i by rw [show i=8+(i-8) by omega,Nat.pow_add];simp,hb,Nat.one_mul]
  grind [hi8,Nat.mod_lt,rev8_add,gF]
theorem gF_end {M j:Nat} (h:M<65536) (hj:j<1+(bl M+7) / 8):gF M (bl M) (bl M) j=((flagsL M).getD j 0).toNat:=by
 obtain ⟨⟨h1,h2⟩,h3⟩:=bl_is h
 by_cases h0:j=0
 ·grind [gF,flagsL,u8_ofNat]
 ·have hn:bl M≠0:=fun e=>by rw [e] at hj;omega
  unfold gF flagsL
  rw [if_neg h0,if_neg hn]
  by_cases h8:bl M≤8
  ·have hM:M<256:=Nat.lt_of_lt_of_le h1 (Nat.pow_le_pow_right (n:=2) (by decide) h8)
   grind [lo8,Nat.mod_eq_of_lt,u8_ofNat,rev8_lt]
  ·rw [if_neg h8]
   by_cases hj1:j=1
   ·grind [lo8,u8_ofNat,rev8_lt]
   ·have:j=2:=by omega
    subst this
    rw [if_neg (by decide)]
    simp only [List.getD_cons_succ,List.getD_cons_zero]
    unfold hi8
    have:M / 256<2 ^ (bl M-8):=by
     have e:2 ^ bl M=256 * 2 ^ (bl M-8):=by rw [show bl M=8+(bl M-8) by omega,Nat.pow_add];simp
     rw [e] at h1
     exact Nat.div_lt_of_lt_mul h1
    rw [Nat.mod_eq_of_lt this,u8_ofNat (rev8_lt (by omega))]
end
end Am
end Go.Proofs.YtnijncmifjnifaaGreatDoor
namespace Go.Proofs.YtnijncmifjnifaaGreatDoor
open Go.RowKit

def byte (n:Int):UInt8:=UInt8.ofNat (n % 256).toNat
theorem byte_toNat (n:Int):((byte n).toNat:Int)=n % 256:=by
 grind [byte,UInt8.toNat_ofNat']
def sh:Nat→Int→Int
 | 0,n=>n
 | k+1,n=>sh k n / 256
def digs (k:Nat) (n:Int):List UInt8:=(List.range k).map fun j=>byte (sh j n)
theorem digs_length (k:Nat) (n:Int):(digs k n).length=k:=by simp [digs]
theorem digs_succ (k:Nat) (n:Int):digs (k+1) n=digs k n++[byte (sh k n)]:=by simp [digs,List.range_succ]
theorem digs_get (k:Nat) (n:Int) (j:Nat) (h:j<k):(digs k n).getD j 0=byte (sh j n):=by simp [digs,List.getD,h]
def stp (j:Nat) (n:Int):Bool:=(sh (j+1) n == 0 && decide (sh j n % 256<128)) || (sh (j+1) n == -1 && decide (128≤sh j n % 256))
theorem stp_iff (j:Nat) (n:Int):stp j n=true↔-128≤sh j n∧sh j n<128:=by
 grind [stp,sh]
theorem stp_mono (j:Nat) (n:Int) (h:stp j n=true):stp (j+1) n=true:=by
 grind [stp_iff,sh]
theorem stp_mono' (n:Int) (j m:Nat) (hjm:j≤m) (h:stp j n=true):stp m n=true:=by
 induction m with
 | zero=>simp_all
 | succ m ih =>
  grind [stp_mono]
theorem stp_seven (n:Int) (h1:-9223372036854775808≤n) (h2:n≤9223372036854775807):stp 7 n=true:=by
 rw [stp_iff]
 simp only [sh]
 omega
def IsLen (n:Int) (k:Nat):Prop:=k≤7∧stp k n=true∧∀ j,j<k→stp j n=false
theorem IsLen.unique {n:Int} {k m:Nat} (h:IsLen n k) (g:IsLen n m):k=m:=by
 rcases Nat.lt_trichotomy k m with h1|h1|h1
 ·have:=g.2.2 k h1;rw [h.2.1] at this;cases this
 ·exact h1
 ·have:=h.2.2 m h1;rw [g.2.1] at this;cases this

def sgn (c:UInt8):Int:=if c.toNat<128 then c.toNat else (c.toNat:Int)-256
def valS (l:List UInt8):Int:=match l with
 | []=>0
 | c::r=>r.foldl (fun a b=>a * 256+b.toNat) (sgn c)
theorem valS_snoc (l:List UInt8) (hl:l≠[]) (c:UInt8):valS (l++[c])=valS l * 256+c.toNat:=by
 cases l with
 | nil=>exact absurd rfl hl
 | cons x r=>simp [valS,List.foldl_append]
theorem valS_bound (l:List UInt8):∀ m,l.length=m+1→-(128 * 256 ^ m)≤valS l∧valS l<128 * 256 ^ m:=by
 intro m
 induction m generalizing l with
 | zero =>
  intro h
  match l,h with
  | [c],_ =>
   have:=c.toNat_lt
   grind [valS,sgn]
 | succ m ih =>
  intro h
  have hne:l≠[]:=by intro e;subst e;simp at h
  have e:l=l.dropLast++[l.getLast hne]:=(List.dropLast_concat_getLast hne).symm
  have hl:l.dropLast.length=m+1:=by simp;omega
  have hd:l.dropLast≠[]:=by intro e;rw [e] at hl;simp at hl
  have:=ih l.dropLast hl
  have hc:=(l.getLast hne).toNat_lt
  rw [e,valS_snoc _ hd]
  omega
theorem valS_small (l:List UInt8) (h:l.length≤7):-36028797018963968≤valS l∧valS l<36028797018963968:=by
 match l,h with
 | [],_=>show -36028797018963968≤(0:Int)∧(0:Int)<36028797018963968;omega
 | c::r,h =>
  simp only [List.length_cons] at h
  have:=valS_bound (c::r) r.length rfl
  have hp:((256:Int) ^ r.length)≤256 ^ 6:=by
   have:r.length=0∨r.length=1∨r.length=2∨r.length=3∨r.length=4∨r.length=5∨r.length=6:=by omega
   rcases this with h|h|h|h|h|h|h <;> rw [h] <;> decide
  omega
theorem valS_digs (n:Int):∀ k,stp k n=true→valS (digs (k+1) n).reverse=n:=by
 intro k h
 have key:∀ j,j≤k→valS ((digs (k+1) n).reverse.take (j+1))=sh (k-j) n:=by
  intro j
  induction j with
  | zero =>
   grind [digs_succ,valS,sgn,stp_iff,byte_toNat]
  | succ j ih =>
   intro hj
   have hlen:j+1<(digs (k+1) n).reverse.length:=by simp [digs_length];omega
   rw [List.take_succ_eq_append_getElem hlen,valS_snoc _ (by intro e;simp_all),ih (by omega)]
   have eg:(digs (k+1) n).reverse[j+1]=byte (sh (k-(j+1)) n):=by
    rw [List.getElem_reverse]
    have:=digs_get (k+1) n ((digs (k+1) n).length-1-(j+1)) (by rw [digs_length];omega)
    simp only [List.getD,digs_length] at this ⊢
    rw [List.getElem?_eq_getElem (by rw [digs_length];omega)] at this
    simp only [Option.getD_some] at this
    rw [show k-(j+1)=k+1-1-(j+1) by omega]
    exact this
   rw [eg,byte_toNat,show k-j=(k-(j+1))+1 by omega]
   simp only [sh]
   omega
 have:=key k (Nat.le_refl _)
 grind [List.take_of_length_le,digs_length,sh]

def idle (l:List UInt8):Bool:=match l with
 | a::b::_=>(a.toNat == 0 && decide (b.toNat<128)) || (a.toNat == 255 && decide (128≤b.toNat))
 | _=>false
def getM (l:List UInt8):Int×Nat :=
 if l.length=0 then (0,2) else if idle l=true then (0,4) else if 8<l.length then (0,1) else (valS l,0)

theorem digs_rev_cons (k:Nat) (n:Int):(digs (k+2) n).reverse=byte (sh (k+1) n)::byte (sh k n)::(digs k n).reverse:=by
 rw [digs_succ,digs_succ]
 simp
theorem idle_digs (n:Int) (k:Nat) (h:stp (k+1) n=true):idle (digs (k+2) n).reverse=stp k n:=by
 grind [digs_rev_cons,stp_iff,idle,byte_toNat,sh]
theorem getM_put (n:Int) (k:Nat) (h:IsLen n k):getM (digs (k+1) n).reverse=(n,0):=by
 have hi:idle (digs (k+1) n).reverse=false:=by
  cases k with
  | zero=>simp [digs,idle]
  | succ k=>rw [idle_digs n k h.2.1];exact h.2.2 k (by omega)
 have:=h.1
 simp [getM,digs_length,hi,valS_digs n k h.2.1]
 omega
theorem i64_join (m c:Int) (h1:-36028797018963968≤m) (h2:m<36028797018963968) (h3:0≤c) (h4:c<256):bits .or .i64 (m * 256) c=m * 256+c:=by
 show IntKind.i64.wrap ((BitVec.ofInt 64 (m * 256) ||| BitVec.ofInt 64 c).toNat:Int)=_
 rw [BitVec.toNat_or,BitVec.toNat_ofInt,BitVec.toNat_ofInt]
 have e1:(c % ((2 ^ 64:Nat):Int)).toNat=c.toNat:=by
  have:((2 ^ 64:Nat):Int)=18446744073709551616:=by decide
  rw [this];omega
 have e2:(m * 256 % ((2 ^ 64:Nat):Int)).toNat=(m * 256 % 18446744073709551616).toNat:=by
  have:((2 ^ 64:Nat):Int)=18446744073709551616:=by decide
  rw [this]
 rw [e1,e2,nat_join 8 _ _ (by omega) (by omega),IntKind.wrap_i64]
 omega
theorem digs_rev_get (n:Int) (k i:Nat) (h:i<k):(digs k n).reverse.getD i 0=byte (sh (k-1-i) n):=by
 grind [digs]
end Go.Proofs.YtnijncmifjnifaaGreatDoor
namespace Go.Proofs.YtnijncmifjnifaaGreatDoor
open Go.RowKit

def fig (d:Nat):UInt8:=byte (48+d:Nat)
def dec (n:Nat):List UInt8:=if n<10 then [fig n] else dec (n / 10)++[fig (n % 10)]
termination_by n

def isFig (c:UInt8):Bool:=decide (48≤c.toNat) && decide (c.toNat≤57)
def valD (l:List UInt8):Nat:=l.foldl (fun a c=>10 * a+(c.toNat-48)) 0
def figM (l:List UInt8):Nat×Nat:=if l.length=0∨18<l.length∨(1<l.length∧(l.getD 0 0).toNat=48)∨l.all isFig=false then (0,4) else (valD l,0)

theorem dec_small {n:Nat} (h:n<10):dec n=[fig n]:=by rw [dec,if_pos h]
theorem dec_big {n:Nat} (h:¬ n<10):dec n=dec (n / 10)++[fig (n % 10)]:=by rw [dec,if_neg h]
theorem fig_toNat (n:Nat) (h:n<10):(fig n).toNat=48+n:=by
 grind [fig,byte_toNat]
theorem valD_append (l:List UInt8) (c:UInt8):valD (l++[c])=10 * valD l+(c.toNat-48):=by simp [valD]

theorem dec_ind {p:Nat→Prop} (h0:∀ n,n<10→p n) (h1:∀ n,¬ n<10→p (n / 10)→p n) (n:Nat):p n:=by
 induction n using Nat.strongRecOn with
 | ind n ih =>
  grind

theorem dec_pos (n:Nat):0<(dec n).length:=by
 grind [dec_small,dec_big]
theorem dec_figs (n:Nat):(dec n).all isFig=true:=by
 induction n using dec_ind with
 | h0 n h =>
  grind [dec_small,fig_toNat,isFig]
 | h1 n h ih =>
  grind [dec_big,fig_toNat,isFig]
theorem dec_val (n:Nat):valD (dec n)=n:=by
 induction n using dec_ind with
 | h0 n h =>
  grind [dec_small,fig_toNat,valD]
 | h1 n h ih =>
  grind [dec_big,valD_append,fig_toNat]
theorem dec_head (n:Nat):1<(dec n).length→((dec n).getD 0 0).toNat≠48:=by
 induction n using dec_ind with
 | h0 n h=>rw [dec_small h];simp
 | h1 n h ih =>
  grind [dec,fig_toNat]
theorem dec_len (k:Nat):∀ n,n<10 ^ (k+1)→(dec n).length≤k+1:=by
 induction k with
 | zero=>grind [dec_small]
 | succ k ih =>
  grind [dec_big]
theorem snoc_ind {p:List UInt8→Prop} (h0:p []) (h1:∀ l c,p l→p (l++[c])) (l:List UInt8):p l:=by
 have h:∀ l:List UInt8,p l.reverse:=by
  intro l
  induction l with
  | nil=>exact h0
  | cons c l ih=>simp_all
 have:=h l.reverse
 simp_all
theorem all_snoc {l:List UInt8} {c:UInt8} (h:(l++[c]).all isFig=true):l.all isFig=true∧48≤c.toNat∧c.toNat≤57:=by
 grind [isFig]
theorem head_snoc {l:List UInt8} {c:UInt8} (h:0<l.length):(l++[c]).getD 0 0=l.getD 0 0:=by
 simp_all
theorem valD_pos (l:List UInt8):0<l.length→l.all isFig=true→(l.getD 0 0).toNat≠48→0<valD l:=by
 induction l using snoc_ind with
 | h0=>simp
 | h1 l c ih =>
  intro _ h hh
  obtain ⟨h1,h2,h3⟩:=all_snoc h
  grind [valD_append]
theorem fig_back {c:UInt8} (h2:48≤c.toNat):fig (c.toNat-48)=c:=by
 unfold fig
 apply UInt8.toNat_inj.1
 have:=byte_toNat ((48+(c.toNat-48):Nat):Int)
 have:=c.toNat_lt
 omega
theorem dec_valD (l:List UInt8):0<l.length→l.all isFig=true→(1<l.length→(l.getD 0 0).toNat≠48)→dec (valD l)=l:=by
 induction l using snoc_ind with
 | h0=>simp
 | h1 l c ih =>
  intro _ h hh
  obtain ⟨h1,h2,h3⟩:=all_snoc h
  rw [valD_append]
  by_cases hl:l=[]
  ·subst hl
   show dec (10 * 0+(c.toNat-48))=[c]
   grind [dec_small,fig_back]
  ·have hp:=List.length_pos_iff.2 hl
   rw [head_snoc hp] at hh
   have h0:=hh (by simp;omega)
   have hv:=valD_pos l hp h1 h0
   rw [dec_big (by omega),show (10 * valD l+(c.toNat-48)) / 10=valD l by omega,show (10 * valD l+(c.toNat-48)) % 10=c.toNat-48 by omega,fig_back h2,ih hp h1 (fun _=>h0)]
theorem figM_dec {n:Nat} (h:n<1000000000000000000):figM (dec n)=(n,0):=by
 have h1:=dec_pos n
 have h2:=dec_len 17 n h
 grind [dec_head,figM,dec_val,dec_figs]
theorem figM_ref (l:List UInt8):figM l=if 1≤l.length∧l.length≤18∧l.all isFig=true∧dec (valD l)=l then (valD l,0) else (0,4):=by
 grind [figM,dec_head,dec_valD]
end Go.Proofs.YtnijncmifjnifaaGreatDoor
namespace Go.Proofs.YtnijncmifjnifaaGreatDoor
set_option linter.unusedVariables false
namespace Am
open Go.RowKit
section
theorem ex_snoc {l:List UInt8} (h:l≠[]):∃ q c,l=q++[c]:=⟨l.dropLast,l.getLast h,(List.dropLast_concat_getLast h).symm⟩
def consHead (x:UInt8):List (List UInt8)→List (List UInt8)
 | []=>[[x]]
 | p::r=>(x::p)::r
def splitC (c:UInt8):List UInt8→List (List UInt8)
 | []=>[[]]
 | x::l=>if x=c then []::splitC c l else consHead x (splitC c l)
def joinC (c:UInt8):List (List UInt8)→List UInt8
 | []=>[]
 | [p]=>p
 | p::q::r=>p++c::joinC c (q::r)
theorem splitC_ne (c:UInt8) (l:List UInt8):splitC c l≠[]:=by
 cases l with
 | nil=>simp [splitC]
 | cons x l =>
  rw [splitC]
  split
  ·simp
  ·cases splitC c l <;> simp [consHead]
theorem splitC_none {c:UInt8}:∀ {l:List UInt8},c ∉ l→splitC c l=[l]
 | [],_=>rfl
 | x::l,h=>by
  have h1:x≠c:=fun e=>h (by simp [e])
  have h2:c ∉ l:=fun e=>h (by simp [e])
  rw [splitC,if_neg h1,splitC_none h2];rfl
theorem splitC_at {c:UInt8}:∀ {p:List UInt8} (r:List UInt8),c ∉ p→splitC c (p++c::r)=p::splitC c r
 | [],r,_=>by simp [splitC]
 | x::l,r,h=>by
  have h1:x≠c:=fun e=>h (by simp [e])
  have h2:c ∉ l:=fun e=>h (by simp [e])
  rw [List.cons_append,splitC,if_neg h1,splitC_at r h2];rfl
theorem join_head (c:UInt8) (x:UInt8):∀ ls:List (List UInt8),ls≠[]→joinC c (consHead x ls)=x::joinC c ls
 | [],h=>absurd rfl h
 | [p],_=>rfl
 | p::q::r,_=>rfl
theorem join_split (c:UInt8):∀ l:List UInt8,joinC c (splitC c l)=l
 | []=>rfl
 | x::l=>by
  rw [splitC]
  have ih:=join_split c l
  have hne:=splitC_ne c l
  split
  ·rename_i e
   subst e
   revert ih hne
   cases splitC x l with
   | nil=>intro _ h;exact absurd rfl h
   | cons p r=>intro ih _;rw [joinC,ih];rfl
  ·rw [join_head c x _ hne,ih]
theorem split_join {c:UInt8}:∀ {ls:List (List UInt8)},ls≠[]→(∀ p ∈ ls,c ∉ p)→splitC c (joinC c ls)=ls
 | [],h,_=>absurd rfl h
 | [p],_,h=>by rw [joinC,splitC_none (h p (by simp))]
 | p::q::r,_,h=>by
  rw [joinC,splitC_at _ (h p (by simp)),split_join (by simp) (fun x hx=>h x (by simp at hx ⊢;exact .inr hx))]
def okP (p:List UInt8):Bool:=decide ((figM p).2=0) && decide (p.length≤10)
def valP (p:List UInt8):Int:=((figM p).1:Nat)
def rightA (l:List Int):Bool:=decide (2≤l.length) && decide (l.length≤16) && l.all (fun n=>decide (0≤n) && decide (n≤2147483647)) && decide (l.getD 0 0≤2) && (decide (l.getD 0 0=2) || decide (l.getD 1 0<40))
def parseM (s:List UInt8):List Int×Nat :=
 if ((splitC 46 s).all okP)=false then ([],4) else if rightA ((splitC 46 s).map valP)=false then ([],1) else ((splitC 46 s).map valP,0)

def sepHi (m:Nat):List UInt8:=if h:m=0 then [] else sepHi (m / 128)++[UInt8.ofNat (m % 128+128)]
termination_by m
decreasing_by omega
def sepL (n:Nat):List UInt8:=sepHi (n / 128)++[UInt8.ofNat (n % 128)]
theorem sepHi_zero:sepHi 0=[]:=by rw [sepHi];simp
theorem sepHi_pos {m:Nat} (h:m≠0):sepHi m=sepHi (m / 128)++[UInt8.ofNat (m % 128+128)]:=by rw [sepHi,dif_neg h]
theorem sepHi_len (k:Nat):∀ m,m<128 ^ k→(sepHi m).length≤k:=by
 induction k with
 | zero=>grind [sepHi_zero]
 | succ k ih =>
  grind [sepHi_pos]
theorem sepL_len {n:Nat} (h:n<34359738368):(sepL n).length≤5:=by
 have:=sepHi_len 4 (n / 128) (by omega)
 simp [sepL];omega
theorem sepL_pos (n:Nat):0<(sepL n).length:=by simp [sepL]
def valSO (l:List UInt8):Nat:=l.foldl (fun a c=>a * 128+c.toNat % 128) 0
theorem valSO_snoc (l:List UInt8) (c:UInt8):valSO (l++[c])=valSO l * 128+c.toNat % 128:=by simp [valSO]
theorem valS_hi (m:Nat):valSO (sepHi m)=m:=by
 induction m using Nat.strongRecOn with
 | ind m ih =>
  by_cases h0:m=0
  ·subst h0;rw [sepHi_zero];rfl
  ·rw [sepHi_pos h0,valSO_snoc,ih _ (by omega),UInt8.toNat_ofNat']
   omega
theorem valS_sep (n:Nat):valSO (sepL n)=n:=by
 rw [sepL,valSO_snoc,valS_hi,UInt8.toNat_ofNat']
 omega
theorem sepHi_big (m:Nat):∀ c ∈ sepHi m,128≤c.toNat:=by
 induction m using Nat.strongRecOn with
 | ind m ih =>
  grind [sepHi_zero,sepHi_pos,UInt8.toNat_ofNat']
theorem sepHi_head (m:Nat) (h:m≠0):((sepHi m).getD 0 0).toNat≠128:=by
 induction m using Nat.strongRecOn with
 | ind m ih =>
  grind [UInt8.toNat_ofNat',sepHi]
def runLen:List UInt8→Nat
 | []=>0
 | c::l=>if c.toNat<128 then 1 else 1+runLen l
theorem runLen_le:∀ l:List UInt8,runLen l≤l.length
 | []=>Nat.le_refl _
 | c::l=>by
  have:=runLen_le l
  rw [runLen];split <;> simp <;> omega
theorem runLen_pos {l:List UInt8} (h:l≠[]):0<runLen l:=by
 cases l with
 | nil=>exact absurd rfl h
 | cons c l=>rw [runLen];split <;> omega
theorem runLen_app {l:List UInt8} (h:∀ c ∈ l,128≤c.toNat) (x:UInt8) (hx:x.toNat<128) (r:List UInt8):runLen (l++x::r)=l.length+1:=by
 induction l with
 | nil=>simp [runLen,hx]
 | cons c l ih =>
  grind [runLen]
def numM (run:List UInt8) (most:Nat):Nat×Nat :=
 if 128≤(run.getD (run.length-1) 0).toNat then (0,2) else if (run.getD 0 0).toNat=128 then (0,4) else if most<valSO run then (0,1) else (valSO run,0)
def numsM (most:Nat) (b:List UInt8):List Nat×Nat :=
 if h:b=[] then ([],0) else
  if (numM (b.take (runLen b)) most).2≠0 then ([],(numM (b.take (runLen b)) most).2) else
   if (numsM 2147483647 (b.drop (runLen b))).2≠0 then ([],(numsM 2147483647 (b.drop (runLen b))).2) else
    ((numM (b.take (runLen b)) most).1::(numsM 2147483647 (b.drop (runLen b))).1,0)
termination_by b.length
decreasing_by
 grind [runLen_pos,List.length_pos_iff]
def arcsOf:List Nat→List Int
 | []=>[]
 | n::r=>(min (n / 40) 2:Nat)::((n:Int)-40 * (min (n / 40) 2:Nat))::r.map Int.ofNat
def getA (b:List UInt8):List Int×Nat :=
 if b=[] then ([],2) else if (numsM 2147483727 b).2≠0 then ([],(numsM 2147483727 b).2) else
  if rightA (arcsOf (numsM 2147483727 b).1)=false then ([],1) else (arcsOf (numsM 2147483727 b).1,0)
def putA (l:List Int):List UInt8:=sepL (40 * l.getD 0 0+l.getD 1 0).toNat++((l.drop 2).map fun n=>sepL n.toNat).flatten
theorem run_sep (n:Nat) (r:List UInt8):runLen (sepL n++r)=(sepL n).length:=by
 grind [sepL,runLen_app,sepHi_big,UInt8.toNat_ofNat']
theorem num_sep {n most:Nat} (h:n≤most):numM (sepL n) most=(n,0):=by
 have h1:(sepL n).getD ((sepL n).length-1) 0=UInt8.ofNat (n % 128):=by
  simp [sepL,List.getD]
 have h2:((sepL n).getD 0 0).toNat≠128:=by
  by_cases h0:n / 128=0
  ·grind [sepL,sepHi_zero,UInt8.toNat_ofNat']
  ·grind [sepHi_head,sepHi_pos,sepL]
 grind [UInt8.toNat_ofNat',numM,valS_sep]
theorem nums_sep {n most:Nat} (h:n≤most) (r:List UInt8) (l:List Nat) (hr:numsM 2147483647 r=(l,0)):numsM most (sepL n++r)=(n::l,0):=by
 grind [sepL_pos,numsM,run_sep,List.drop_left,num_sep]
theorem nums_all (l:List Nat) (h:∀ n ∈ l,n≤2147483647):numsM 2147483647 ((l.map sepL).flatten)=(l,0):=by
 induction l with
 | nil=>rw [numsM];simp
 | cons n l ih =>
  grind [nums_sep]
theorem right_at {l:List Int} (h:rightA l=true):2≤l.length∧l.length≤16∧(∀ n ∈ l,0≤n∧n≤2147483647)∧l.getD 0 0≤2∧(l.getD 0 0=2∨l.getD 1 0<40):=by
 grind [rightA]
theorem arcs_two {a b:Int} {r:List Nat} (h:0≤a∧a≤2) (hb:0≤b) (h2:a=2∨b<40):arcsOf ((40 * a+b).toNat::r)=a::b::r.map Int.ofNat:=by
 grind [arcsOf]
theorem get_put {l:List Int} (h:rightA l=true):getA (putA l)=(l,0):=by
 obtain ⟨h1,h2,h3,h4,h5⟩:=right_at h
 match l,h1 with
 | a::b::r,_ =>
  simp only [List.getD_cons_zero,List.getD_cons_succ] at h4 h5
  have ha:=h3 a (by simp)
  have hb:=h3 b (by simp)
  have hr:∀ n ∈ r.map Int.toNat,n≤2147483647:=fun n hn=>by
   grind
  have hn:=nums_all _ hr
  rw [List.map_map] at hn
  have hs:=nums_sep (n:=(40 * a+b).toNat) (most:=2147483727) (by omega) _ _ hn
  have hput:putA (a::b::r)=sepL (40 * a+b).toNat++(r.map (sepL ∘ Int.toNat)).flatten:=rfl
  have hne:putA (a::b::r)≠[]:=fun e=>by
   grind [sepL_pos,List.length_nil]
  have e:arcsOf ((40 * a+b).toNat::r.map Int.toNat)=a::b::r:=by
   rw [arcs_two ⟨ha.1,h4⟩ hb.1 h5,List.map_map]
   refine congrArg _ (congrArg _ ?_)
   refine (List.map_congr_left fun x hx=>?_).trans (List.map_id _)
   have:=h3 x (by simp [hx])
   simp;omega
  grind [getA]
theorem sep_run (l:List UInt8) (h:∀ c ∈ l,128≤c.toNat) (h2:l≠[]→(l.getD 0 0).toNat≠128):sepHi (valSO l)=l:=by
 have key:∀ k,∀ l:List UInt8,l.length=k→(∀ c ∈ l,128≤c.toNat)→(l≠[]→(l.getD 0 0).toNat≠128)→sepHi (valSO l)=l∧(l≠[]→valSO l≠0):=by
  intro k
  induction k with
  | zero =>
    intro l hl _ _;have:l=[]:=List.length_eq_zero_iff.1 hl
    subst this;exact ⟨sepHi_zero,fun h=>absurd rfl h⟩
  | succ k ih =>
   intro l hl hb hh
   obtain ⟨q,c,rfl⟩:=ex_snoc (l:=l) (by grind)
   have hlq:q.length=k:=by simpa using hl
   have hc:=hb c (by simp)
   have hc2:=c.toNat_lt
   have hq:q≠[]→(q.getD 0 0).toNat≠128:=fun hne=>by
    grind
   obtain ⟨h5,h6⟩:=ih q hlq (fun d hd=>hb d (by simp [hd])) hq
   have hv:valSO (q++[c])≠0:=by
    rw [valSO_snoc]
    by_cases hq0:q=[]
    ·grind
    ·grind
   refine ⟨?_,fun _=>hv⟩
   rw [sepHi_pos hv,valSO_snoc,show (valSO q * 128+c.toNat % 128) / 128=valSO q by omega,h5]
   refine congrArg _ ?_
   rw [show (valSO q * 128+c.toNat % 128) % 128+128=c.toNat by omega,UInt8.ofNat_toNat]
 simp_all
theorem sep_runL {l:List UInt8} (hne:l≠[]) (h:∀ i,i+1<l.length→128≤(l.getD i 0).toNat) (h1:(l.getD (l.length-1) 0).toNat<128) (h2:(l.getD 0 0).toNat≠128):sepL (valSO l)=l:=by
 obtain ⟨q,c,rfl⟩:=ex_snoc hne
 have hc:c.toNat<128:=by simpa [List.getD] using h1
 have hb:∀ d ∈ q,128≤d.toNat:=fun d hd=>by
  obtain ⟨i,hi,rfl⟩:=List.getElem_of_mem hd
  simp_all [List.getElem?_append_left]
 have hq:q≠[]→(q.getD 0 0).toNat≠128:=fun hne=>by
  grind
 rw [sepL,valSO_snoc,show (valSO q * 128+c.toNat % 128) / 128=valSO q by omega,show (valSO q * 128+c.toNat % 128) % 128=c.toNat by omega,sep_run q hb hq,UInt8.ofNat_toNat]
theorem runLen_mid:∀ (l:List UInt8) (i:Nat),i+1<runLen l→128≤(l.getD i 0).toNat
 | [],i,h=>by simp [runLen] at h
 | c::l,i,h=>by
  rw [runLen] at h
  split at h
  ·omega
  ·cases i with
   | zero=>simp;omega
   | succ i=>simpa using runLen_mid l i (by omega)
theorem num_back {b:List UInt8} {most n:Nat} (hb:b≠[]) (h:numM (b.take (runLen b)) most=(n,0)):sepL n=b.take (runLen b)∧n≤most:=by
 unfold numM at h
 have hp:=runLen_pos hb
 have hle:=runLen_le b
 have hlen:(b.take (runLen b)).length=runLen b:=by simp;omega
 split at h
 ·simp at h
 split at h
 ·simp at h
 split at h
 ·simp at h
 simp at h
 subst h
 refine ⟨sep_runL (by grind) (fun i hi=>?_) (by omega) (by assumption),by omega⟩
 rw [hlen] at hi
 have:=runLen_mid b i hi
 grind
theorem nums_back:∀ (k:Nat) (b:List UInt8) (most:Nat) (l:List Nat),b.length≤k→numsM most b=(l,0)→(l.map sepL).flatten=b∧(∀ n ∈ l.drop 1,n≤2147483647)∧(∀ n,l.head?=some n→n≤most)∧(b≠[]→l≠[]):=by
 intro k
 induction k with
 | zero =>
  grind [numsM]
 | succ k ih =>
  intro b most l hk h
  by_cases hb:b=[]
  ·grind [numsM]
  ·rw [numsM,dif_neg hb] at h
   split at h
   ·simp_all
   rename_i h1
   split at h
   ·simp_all
   rename_i h2
   have hp:=runLen_pos hb
   have hl:=List.length_pos_iff.2 hb
   obtain ⟨l',hl'⟩:∃ l',numsM 2147483647 (b.drop (runLen b))=(l',0):=⟨_,Prod.ext rfl (by simpa using h2)⟩
   obtain ⟨h3,h4,h5,_⟩:=ih (b.drop (runLen b)) 2147483647 l' (by simp;omega) hl'
   obtain ⟨n,hn⟩:∃ n,numM (b.take (runLen b)) most=(n,0):=⟨_,Prod.ext rfl (by simpa using h1)⟩
   obtain ⟨h6,h7⟩:=num_back hb hn
   rw [hl',hn] at h
   simp at h
   subst h
   refine ⟨?_,?_,?_,fun _=>by simp⟩
   ·simp_all
   ·intro m hm
    cases l' with
    | nil=>simp at hm
    | cons x r =>
     grind
   simp_all
theorem put_get {b:List UInt8} {l:List Int} (h:getA b=(l,0)):putA l=b∧rightA l=true:=by
 unfold getA at h
 split at h
 ·simp at h
 rename_i hb
 split at h
 ·simp_all
 rename_i h1
 split at h
 ·simp at h
 rename_i h2
 simp at h
 have hr:rightA (arcsOf (numsM 2147483727 b).1)=true:=by simpa using h2
 obtain ⟨ns,hns⟩:∃ ns,numsM 2147483727 b=(ns,0):=⟨_,Prod.ext rfl (by simpa using h1)⟩
 obtain ⟨h3,h4,h5,h6⟩:=nums_back b.length b _ ns (Nat.le_refl _) hns
 rw [hns] at h hr
 subst h
 refine ⟨?_,hr⟩
 cases ns with
 | nil=>grind
 | cons n r =>
  rw [← h3]
  show sepL _++_=_
  grind [arcsOf,List.map_congr_left]
theorem isFig_iff (c:UInt8):isFig c=(decide (48≤c.toNat) && decide (c.toNat≤57)):=rfl
theorem figM_back {p:List UInt8} (h:(figM p).2=0):dec (figM p).1=p:=by
 grind [figM_ref]

def textL (l:List Int):List UInt8:=joinC 46 (l.map fun n=>dec n.toNat)
theorem dec_free (n:Nat):(46:UInt8) ∉ dec n:=fun h=>by
 grind [dec_figs,isFig_iff]
theorem ok_dec {n:Int} (h0:0≤n) (h:n≤2147483647):okP (dec n.toNat)=true∧valP (dec n.toNat)=n:=by
 grind [figM_dec,dec_len,okP,valP]
theorem parse_text {l:List Int} (h:rightA l=true):parseM (textL l)=(l,0):=by
 obtain ⟨h1,h2,h3,h4,h5⟩:=right_at h
 have hs:splitC 46 (textL l)=l.map fun n=>dec n.toNat:=split_join (by cases l <;> simp at h1 ⊢) (fun p hp=>by
  grind [dec_free])
 have ho:((l.map fun n=>dec n.toNat).all okP)=true:=by
  rw [List.all_eq_true]
  intro p hp
  obtain ⟨n,hn,rfl⟩:=List.mem_map.1 hp
  exact (ok_dec (h3 n hn).1 (h3 n hn).2).1
 have hv:(l.map fun n=>dec n.toNat).map valP=l:=by
  rw [List.map_map]
  refine (List.map_congr_left fun n hn=>?_).trans (List.map_id _)
  exact (ok_dec (h3 n hn).1 (h3 n hn).2).2
 grind [parseM]
theorem parse_right {s:List UInt8} {l:List Int} (h:parseM s=(l,0)):rightA l=true∧(splitC 46 s).all okP=true∧l=(splitC 46 s).map valP:=by
 grind [parseM]
theorem text_parse {s:List UInt8} {l:List Int} (h:parseM s=(l,0)):textL l=s:=by
 obtain ⟨h1,h2,rfl⟩:=parse_right h
 unfold textL
 rw [List.map_map]
 have:(splitC 46 s).map ((fun n=>dec n.toNat) ∘ valP)=splitC 46 s:=by
  refine (List.map_congr_left fun p hp=>?_).trans (List.map_id _)
  have h3:=List.all_eq_true.1 h2 p hp
  simp only [okP,Bool.and_eq_true,decide_eq_true_eq] at h3
  exact figM_back h3.1
 rw [this,join_split]
def cmpA:List Int→List Int→Int
 | [],[]=>0
 | [],_::_=>-1
 | _::_,[]=>1
 | a::l,b::r=>if a<b then -1 else if b<a then 1 else cmpA l r
def underA (x y:List Int):Bool:=decide (y.length≤x.length) && decide (x.take y.length=y)
end
section
def runsL (b:List UInt8):List (List UInt8):=if h:b=[] then [] else b.take (runLen b)::runsL (b.drop (runLen b))
termination_by b.length
decreasing_by
 grind [runLen_pos,List.length_pos_iff]
def resL (most:Nat):List (List UInt8)→List (Nat×Nat)
 | []=>[]
 | r::t=>numM r most::resL 2147483647 t
def errL:List (Nat×Nat)→Nat
 | []=>0
 | x::t=>if x.2=0 then errL t else x.2
def putM (s:List UInt8):List UInt8:=if (parseM s).2=0 then putA (parseM s).1 else []
def resB (b:List UInt8):List (Nat×Nat):=resL 2147483727 (runsL b)
def textM (l:List Int):List UInt8×Nat:=if rightA l=true then (textL l,0) else ([],1)
def ogetM (b:List UInt8):List UInt8×Nat:=if (getA b).2=0 then (textL (getA b).1,0) else ([],(getA b).2)
theorem get_of_put {s:List UInt8} (h:(parseM s).2=0):ogetM (putA (parseM s).1)=(s,0):=by
 grind [parseM,text_parse,ogetM,get_put]
end
end Am
end Go.Proofs.YtnijncmifjnifaaGreatDoor
namespace Go.Proofs.YtnijncmifjnifaaGreatDoor.Cal
set_option linter.unusedVariables false

structure D6 where
 y:Int
 m:Int
 d:Int
 h:Int
 mi:Int
 s:Int

def leapM (y:Int):Bool:=y % 4 == 0 && (y % 100 != 0 || y % 400 == 0)
theorem leapM_eq (y:Int):leapM y=decide (y % 4=0∧(y % 100≠0∨y % 400=0)):=by
 grind [leapM]
theorem tmod0 (a b:Int):a.tmod b=0↔a % b=0:=by
 rw [← Int.dvd_iff_tmod_eq_zero,Int.dvd_iff_emod_eq_zero]
def daysM (y m:Int):Int :=
 if m=4∨m=6∨m=9∨m=11 then 30 else if m=2 then (if leapM y then 29 else 28) else if m<1∨m>12 then 0 else 31
theorem days_le (y m:Int):0≤daysM y m∧daysM y m≤31:=by
 grind [daysM]
theorem days_pos {y m d:Int} (h1:1≤d) (h2:d≤daysM y m):1≤m∧m≤12:=by
 grind [daysM]
def bf (y:Int):Int:=365 * (y-1)+(y-1) / 4-(y-1) / 100+(y-1) / 400+306-719468
theorem bf_1970:bf 1970=0:=by decide
theorem bf_succ (y:Int):bf (y+1)=bf y+365+if leapM y then 1 else 0:=by
 grind [leapM,bf]
theorem bf_mono {a b:Int} (h:a≤b):bf a≤bf b:=by unfold bf;omega
theorem bf_bd (y:Int) (h1:1970≤y) (h2:y≤10000):0≤bf y∧bf y≤2932897:=by unfold bf;omega
def cum (y m:Int):Int :=
 if m≤2 then 31 * (m-1) else (153 * (m-3)+2) / 5+59+(if leapM y then 1 else 0)
theorem cum_one (y:Int):cum y 1=0:=by simp [cum]
theorem cum_succ (y m:Int) (h1:1≤m) (h2:m≤12):cum y (m+1)=cum y m+daysM y m:=by
 grind [cum,daysM]
theorem cum_13 (y:Int):bf y+cum y 13=bf (y+1):=by
 grind [bf_succ,cum]
theorem cum_mono {y a b:Int} (h0:1≤a) (h:a≤b) (h1:b≤13):cum y a≤cum y b:=by
 grind [cum]
theorem cum_bd (y m:Int) (h1:1≤m) (h2:m≤13):0≤cum y m∧cum y m≤366:=by
 grind [cum]
def dn (y m d:Int):Int:=bf y+cum y m+d-1

theorem dn_prog (y m d:Int) (h1:1≤m) (h2:m≤12) :
  365 * (if m-3<0 then y-1 else y)+(if m-3<0 then y-1 else y) / 4-(if m-3<0 then y-1 else y) / 100+(if m-3<0 then y-1 else y) / 400+(153 * (if m-3<0 then m-3+12 else m-3)+2) / 5+d-1-719468=dn y m d:=by
 grind [leapM,dn,bf,cum]

def RightP (x:D6):Prop:=1970≤x.y∧x.y≤9999∧1≤x.d∧x.d≤daysM x.y x.m∧0≤x.h∧x.h<24∧0≤x.mi∧x.mi<60∧0≤x.s∧x.s<60
instance (x:D6):Decidable (RightP x):=by unfold RightP;infer_instance
def secM (x:D6):Int:=((dn x.y x.m x.d * 24+x.h) * 60+x.mi) * 60+x.s

theorem dn_bd {y m d:Int} (h1:1970≤y) (h2:y≤9999) (h3:1≤d) (h4:d≤daysM y m):bf y≤dn y m d∧dn y m d<bf (y+1)∧1≤m∧m≤12∧cum y m≤dn y m d-bf y∧dn y m d-bf y<cum y (m+1):=by
 obtain ⟨hm1,hm2⟩:=days_pos h3 h4
 have h5:=cum_succ y m hm1 hm2
 have h6:=cum_13 y
 have h7:=cum_mono (y:=y) (a:=m+1) (b:=13) (by omega) (by omega) (by omega)
 have h8:=cum_bd y m hm1 (by omega)
 unfold dn
 omega
theorem dn_inj {y m d y' m' d':Int} (a1:1970≤y) (a2:y≤9999) (a3:1≤d) (a4:d≤daysM y m) (b1:1970≤y') (b2:y'≤9999) (b3:1≤d') (b4:d'≤daysM y' m') (h:dn y m d=dn y' m' d'):y=y'∧m=m'∧d=d':=by
 obtain ⟨p1,p2,p3,p4,p5,p6⟩:=dn_bd a1 a2 a3 a4
 obtain ⟨q1,q2,q3,q4,q5,q6⟩:=dn_bd b1 b2 b3 b4
 rw [h] at p1 p2 p5 p6
 have hy:y=y':=by
  rcases Int.lt_trichotomy y y' with hlt|heq|hlt
  ·have:=bf_mono (a:=y+1) (b:=y') (by omega);omega
  ·exact heq
  ·have:=bf_mono (a:=y'+1) (b:=y) (by omega);omega
 subst hy
 have hm:m=m':=by
  rcases Int.lt_trichotomy m m' with hlt|heq|hlt
  ·have:=cum_mono (y:=y) (a:=m+1) (b:=m') (by omega) (by omega) (by omega);omega
  ·exact heq
  ·have:=cum_mono (y:=y) (a:=m'+1) (b:=m) (by omega) (by omega) (by omega);omega
 grind [dn]

theorem dec_c (n:Int) (h0:0≤n) (h1:n<146097):∃ c r:Int,n=36524 * c+r∧0≤c∧c≤3∧0≤r∧(r<36524∨(c=3∧r=36524)):=by
 by_cases h:n=146096
 ·exact ⟨3,36524,by omega,by omega,by omega,by omega,.inr ⟨rfl,rfl⟩⟩
 ·exact ⟨n / 36524,n % 36524,by omega,by omega,by omega,by omega,.inl (by omega)⟩
theorem dec_k (v:Int) (h0:0≤v) (h1:v<1461):∃ k e:Int,v=365 * k+e∧0≤k∧k≤3∧0≤e∧(e<365∨(k=3∧e=365)):=by
 by_cases h:v=1460
 ·exact ⟨3,365,by omega,by omega,by omega,by omega,.inr ⟨rfl,rfl⟩⟩
 ·exact ⟨v / 365,v % 365,by omega,by omega,by omega,by omega,.inl (by omega)⟩
theorem div_1460 (c q v:Int) (hc:0≤c) (hc3:c≤3) (hq:0≤q) (hq24:q≤24) (hv:0≤v) (hv2:v≤1460):∃ z,(36524 * c+1461 * q+v) / 1460=25 * c+q+z∧((z=0∧24 * c+q+v<1460)∨(z=1∧1460≤24 * c+q+v)):=by
 grind
theorem div_cent (c r:Int) (hc:0≤c) (hc3:c≤3) (h0:0≤r) (h:r<36524∨(c=3∧r=36524)):(36524 * c+r) / 36524-(36524 * c+r) / 146096=c:=by
 omega
def yr (n:Int):Int:=(n-n / 1460+n / 36524-n / 146096) / 365
theorem year_eq {n c r q v k e:Int} (hn:n=36524 * c+r) (hc:0≤c) (hc3:c≤3) (hr0:0≤r) (hr:r<36524∨(c=3∧r=36524)) (hr2:r=1461 * q+v) (hq:0≤q) (hq24:q≤24) (hv:0≤v) (hv2:v<1461) (hv3:v=365 * k+e) (hk0:0≤k) (hk3:k≤3) (he0:0≤e) (he:e<365∨(k=3∧e=365)):yr n=100 * c+4 * q+k:=by
 obtain ⟨z,hz,hz2⟩:=div_1460 c q v hc hc3 hq hq24 hv (Int.le_of_lt_add_one hv2)
 have e1:=div_cent c r hc hc3 hr0 hr
 show (n-n / 1460+n / 36524-n / 146096) / 365=_
 have e3:n / 36524-n / 146096=c:=by rw [hn];exact e1
 have e4:n / 1460=25 * c+q+z:=by rw [hn,hr2,← Int.add_assoc];exact hz
 grind
theorem dec_q (r:Int) (h0:0≤r) (h1:r≤36524):∃ q v:Int,r=1461 * q+v∧0≤q∧q≤24∧0≤v∧v<1461:=⟨r / 1461,r % 1461,by omega,by omega,by omega,by omega,by omega⟩
theorem year_of (n:Int) (h0:0≤n) (h1:n<146097) :
  0≤yr n∧yr n≤399∧365 * yr n+yr n / 4-yr n / 100≤n∧n<365 * (yr n+1)+(yr n+1) / 4-(yr n+1) / 100+(if yr n=399 then 1 else 0):=by
 obtain ⟨c,r,hn,hc,hc3,hr0,hr⟩:=dec_c n h0 h1
 have hr1:r≤36524:=by
  rcases hr with h|h
  ·exact Int.le_of_lt h
  ·exact Int.le_of_eq h.2
 obtain ⟨q,v,hr2,hq,hq24,hv,hv2⟩:=dec_q r hr0 hr1
 obtain ⟨k,e,hv3,hk0,hk3,he0,he⟩:=dec_k v hv hv2
 rw [year_eq hn hc hc3 hr0 hr hr2 hq hq24 hv hv2 hv3 hk0 hk3 he0 he]
 grind

theorem n2_bd (r:Int) (h0:0≤r) (h1:r<146097):0≤r-(365 * yr r+yr r / 4-yr r / 100)∧r-(365 * yr r+yr r / 4-yr r / 100)≤365:=by
 obtain ⟨y0,y1,y2,y3⟩:=year_of r h0 h1
 omega
structure Parts where
 ages:Int
 y:Int
 m:Int
 d:Int
def partsM (N:Int):Parts :=
 let n:=N+719468
 let r:=n % 146097
 let y:=yr r
 let n2:=r-(365 * y+y / 4-y / 100)
 let m:=(5 * n2+2) / 153
 ⟨n / 146097,y,m,n2-(153 * m+2) / 5+1⟩
def yOf (N:Int):Int:=(partsM N).ages * 400+(partsM N).y+if (partsM N).m+3>12 then 1 else 0
def mOf (N:Int):Int:=if (partsM N).m+3>12 then (partsM N).m+3-12 else (partsM N).m+3
def dOf (N:Int):Int:=(partsM N).d

theorem succ_4 (y:Int):(y+1) / 4=y / 4+if (y+1) % 4=0 then 1 else 0:=by split <;> omega
theorem succ_100 (y:Int):(y+1) / 100=y / 100+if (y+1) % 100=0 then 1 else 0:=by split <;> omega
theorem parts_bd (N:Int) (h0:0≤N) (h1:N≤2932896):4≤(partsM N).ages∧(partsM N).ages≤24∧0≤(partsM N).y∧(partsM N).y≤399∧0≤(partsM N).m∧(partsM N).m≤11∧1≤(partsM N).d∧(partsM N).d≤31 ∧
  365 * (partsM N).y+(partsM N).y / 4-(partsM N).y / 100+146097 * (partsM N).ages+(153 * (partsM N).m+2) / 5+(partsM N).d-1=N+719468 ∧
  ((partsM N).m=11→(partsM N).d≤28+(if ((partsM N).y+1) % 4=0∧(((partsM N).y+1) % 100≠0∨((partsM N).y+1) % 400=0) then 1 else 0))∧(((partsM N).m=1∨(partsM N).m=3∨(partsM N).m=6∨(partsM N).m=8)→(partsM N).d≤30):=by
 obtain ⟨n,hn⟩:∃ n,n=N+719468:=⟨_,rfl⟩
 obtain ⟨r,hr⟩:∃ r,r=n % 146097:=⟨_,rfl⟩
 have hyo:=year_of r (by omega) (by omega)
 obtain ⟨y,hy⟩:∃ y,y=yr r:=⟨_,rfl⟩
 rw [← hy] at hyo
 obtain ⟨y0,y1,y2,y3⟩:=hyo
 obtain ⟨n2,hn2⟩:∃ n2,n2=r-(365 * y+y / 4-y / 100):=⟨_,rfl⟩
 obtain ⟨m,hm⟩:∃ m,m=(5 * n2+2) / 153:=⟨_,rfl⟩
 have e:partsM N=⟨n / 146097,y,m,n2-(153 * m+2) / 5+1⟩:=by
  simp only [partsM,← hn,← hr,← hy,← hn2,← hm]
 rw [e]
 simp only
 have hlen:0≤n2∧n2≤365:=by split at y3 <;> omega
 have hlast:n2=365→((y+1) % 4=0∧((y+1) % 100≠0∨(y+1) % 400=0)):=by
  intro h
  rw [succ_4,succ_100] at y3
  by_cases h4:(y+1) % 4=0
  ·omega
  ·omega
 omega

theorem leap_400 (A Y:Int):leapM (A * 400+Y)=leapM Y:=by
 grind [leapM]
theorem day_ok (y M D:Int) (m1:0≤M) (m2:M≤11) (d2:D≤31) (h11:M=11→D≤28+if leapM y then 1 else 0) (h30:M=1∨M=3∨M=6∨M=8→D≤30):D≤daysM y (if M+3>12 then M+3-12 else M+3):=by
 grind [daysM]
theorem of_right (N:Int) (h0:0≤N) (h1:N≤2932896):1970≤yOf N∧yOf N≤9999∧1≤dOf N∧dOf N≤daysM (yOf N) (mOf N)∧dn (yOf N) (mOf N) (dOf N)=N:=by
 obtain ⟨a1,a2,y1,y2,m1,m2,d1,d2,hN,h11,h30⟩:=parts_bd N h0 h1
 obtain ⟨A,Y,M,D,hp⟩:∃ A Y M D,partsM N=⟨A,Y,M,D⟩:=⟨_,_,_,_,rfl⟩
 have hy:yOf N=A * 400+Y+if M+3>12 then 1 else 0:=by simp only [yOf,hp]
 have hm:mOf N=if M+3>12 then M+3-12 else M+3:=by simp only [mOf,hp]
 have hd:dOf N=D:=by simp only [dOf,hp]
 rw [hp] at a1 a2 y1 y2 m1 m2 d1 d2 hN h11 h30
 simp only at a1 a2 y1 y2 m1 m2 d1 d2 hN h11 h30
 rw [hy,hm,hd]
 have key:dn (A * 400+Y+if M+3>12 then 1 else 0) (if M+3>12 then M+3-12 else M+3) D=N:=by
  rw [← dn_prog _ _ _ (by split <;> omega) (by split <;> omega)]
  have e4:(A * 400+Y) / 4=100 * A+Y / 4:=by clear h11 h30 hN;omega
  have e100:(A * 400+Y) / 100=4 * A+Y / 100:=by clear h11 h30 hN e4;omega
  have e400:(A * 400+Y) / 400=A:=by clear h11 h30 hN e4 e100;omega
  by_cases h:M+3>12
  ·grind
  ·grind
 have hday:D≤daysM (A * 400+Y+if M+3>12 then 1 else 0) (if M+3>12 then M+3-12 else M+3):=by
  refine day_ok _ M D m1 m2 d2 (fun h=>?_) h30
  have:=h11 h
  subst h
  have e:(A * 400+Y+if (11:Int)+3>12 then 1 else 0)=A * 400+(Y+1):=by simp;omega
  rw [e,leap_400]
  simpa [leapM] using this
 grind

def inT (t:Int):Prop:=0≤t∧t≤253402300799
instance (t:Int):Decidable (inT t):=by unfold inT;infer_instance
def D6.zero:D6:=⟨0,0,0,0,0,0⟩
def ofR6 (t:Int):D6:=⟨yOf (t / 86400),mOf (t / 86400),dOf (t / 86400),t % 86400 / 3600,t % 86400 % 3600 / 60,t % 86400 % 60⟩
def ofM (t:Int):D6:=if inT t then ofR6 t else D6.zero
def ofE (t:Int):Nat:=if inT t then 0 else 1
theorem ofR_right {t:Int} (h:inT t):RightP (ofR6 t)∧secM (ofR6 t)=t:=by
 obtain ⟨h0,h1⟩:=h
 obtain ⟨p1,p2,p3,p4,p5⟩:=of_right (t / 86400) (by omega) (by omega)
 refine ⟨⟨p1,p2,p3,p4,?_⟩,?_⟩
 ·simp only [ofR6];omega
 ·show ((dn (yOf (t / 86400)) (mOf (t / 86400)) (dOf (t / 86400)) * 24+t % 86400 / 3600) * 60+t % 86400 % 3600 / 60) * 60+t % 86400 % 60=t
  rw [p5];omega
theorem sec_bd {x:D6} (h:RightP x):inT (secM x):=by
 obtain ⟨a1,a2,a3,a4,a5,a6,a7,a8,a9,a10⟩:=h
 obtain ⟨p1,p2,_⟩:=dn_bd a1 a2 a3 a4
 grind [bf,inT,secM]
theorem of_sec {x:D6} (h:RightP x):ofR6 (secM x)=x:=by
 have ht:=sec_bd h
 obtain ⟨hr,hs⟩:=ofR_right ht
 obtain ⟨a1,a2,a3,a4,a5,a6,a7,a8,a9,a10⟩:=h
 obtain ⟨b1,b2,b3,b4,b5,b6,b7,b8,b9,b10⟩:=hr
 generalize ofR6 (secM x)=z at *
 obtain ⟨y,m,d,hh,mi,s⟩:=x
 obtain ⟨y',m',d',hh',mi',s'⟩:=z
 grind [secM,dn_inj]
end Go.Proofs.YtnijncmifjnifaaGreatDoor.Cal
namespace Go.Proofs.YtnijncmifjnifaaGreatDoor
set_option linter.unusedVariables false
namespace Am
open Go.RowKit
section
variable {gs:List Nat} [Ok9 gs]
open Go.RowKit Cal
set_option linter.unusedVariables false

def dF (x:D6) (i:Nat):CV:=match i with|0=>.c (.int .i64 x.y)|1=>.c (.int .i64 x.m)|2=>.c (.int .i64 x.d)|3=>.c (.int .i64 x.h)|4=>.c (.int .i64 x.mi)|_=>.c (.int .i64 x.s)
def dateC (x:D6):CV:=.agg 6 (dF x)

theorem is_ac {g:List Nat} (t:Int):ACp g Tryz.prog 180 [.c (.int .i64 t)] (.c (.bool (decide (inT t)))):=by
 refine jF5 1216516 9 Tryz.func180 fun al w0 F0 St0=>?_;refine jF4 800070005110000000021 800070005150044 5 (fun g27=>?_) fun g27=>?_
 ·refine cB ?_
  (simp [inT, *];done)
 refine cB ?_
 (simp [inT, *];done)
theorem leap_ac {g:List Nat} (y:Int):ACp g Tryz.prog 198 [.c (.int .i64 y)] (.c (.bool (leapM y))):=by
 refine jF5 16516 16 Tryz.func198 fun al w0 F0 St0=>?_;refine jq (rd_remT rfl rfl rfl (by (omega))) ?_;refine jU 12 ?_;refine jF4 1 800070005150044444444 6 (fun g30=>?_) fun g30=>?_
 rotate_left
 ·refine cB ?_
  simp only [tmod0] at *
  rw [leapM_eq]
  (simp [*];done)
 refine jq (rd_remT rfl rfl rfl (by (omega))) ?_;refine jU 12 ?_;refine jF4 8000700051100000000100000000444 1 10 (fun g30_2=>?_) fun g30_2=>?_
 ·refine cB ?_
  simp only [ne_eq,tmod0] at *
  rw [leapM_eq]
  (simp [*];done)
 refine jq (rd_remT rfl rfl rfl (by (omega))) ?_;refine jU 80007000511000000005002 ?_;refine cB ?_
 simp only [ne_eq,tmod0,Decidable.not_not] at *
 rw [leapM_eq]
 (simp [*];done)
theorem rleap_ac {g:List Nat} (y:Int):ACp g Tryz.prog 172 [.c (.int .i64 y)] (.c (.bool (leapM y))):=by
 refine jF5 167516 14 Tryz.func172 fun al w0 F0 St0=>?_;refine jq (rd_remT rfl rfl rfl (by (omega))) ?_;refine jU 52 ?_;refine jF3 800030007000516 16810 (fun h13=>?_) fun h13=>?_
 ·refine cB ?_
  simp only [tmod0] at *
  rw [leapM_eq]
  (simp [*];omega)
 refine jq (rd_remT rfl rfl rfl (by (omega))) ?_;refine jU 12 ?_;refine jF4 1 8000700051500444 9 (fun g16=>?_) fun g16=>?_
 ·refine jq (rd_remT rfl rfl rfl (by (omega))) ?_;refine jU 80007000511000000002 ?_;refine cB ?_
  simp only [ne_eq,tmod0] at *
  rw [leapM_eq]
  (simp [*];done)
 refine cB ?_
 simp only [tmod0] at *
 rw [leapM_eq]
 (simp [*];done)
theorem days_ac {g:List Nat} (y m:Int):ACp g Tryz.prog 186 [.c (.int .i64 y),.c (.int .i64 m)] (.c (.int .i64 (daysM y m))):=by
 refine jF5 51267205167516 21 Tryz.func186 fun al w0 F0 St0=>?_;refine jF3 80003000500070005169000810 5126 (fun h35=>?_) fun h35=>?_
 ·refine cI ?_
  (simp [daysM, *];done)
 refine jF3 80003000500070005169000810 5126 (fun h35_2=>?_) fun h35_2=>?_
 ·refine cI ?_
  (simp [daysM, *];done)
 refine jF3 80003000500070005169000810 8512200 (fun h35_3=>?_) fun h35_3=>?_
 ·refine cI ?_
  (simp [daysM, *];done)
 refine jF3 8000300050007000516 5126 (fun h35_4=>?_) fun h35_4=>?_
 ·refine cI ?_
  (simp [daysM, *];done)
 refine jF3 167 12167840010 (fun h37=>?_) fun h37=>?_
 ·refine jF1 5 (leap_ac _) ?_;refine jF3 80003000500030007000516 8000300050007000516810 (fun h38=>?_) fun h38=>?_
  ·refine cI ?_
   (simp [daysM, *];done)
  refine cI ?_
  (simp [daysM, *];done)
 refine jF4 8000300070005169000510000000044 550021 17 (fun g43=>?_) fun g43=>?_
 ·refine cI ?_
  (simp [daysM, *];done)
 refine jF3 800030007000516 80007000516810 (fun h43=>?_) fun h43=>?_
 ·refine cI ?_
  (simp [daysM, *];done)
 refine cI ?_
 (simp [daysM, *];done)
theorem rdays_ac {g:List Nat} (y m:Int):ACp g Tryz.prog 173 [.c (.int .i64 y),.c (.int .i64 m)] (.c (.int .i64 (daysM y m))):=by
 refine jF5 12167516 24 Tryz.func173 fun al w0 F0 St0=>?_;refine jF4 8000300070005169000510000000044 550021 8 (fun g20=>?_) fun g20=>?_
 ·refine cI ?_
  (simp [daysM, *];omega)
 refine jF3 800030007000516 6810 (fun h20=>?_) fun h20=>?_
 ·refine cI ?_
  (simp [daysM, *];omega)
 refine jF6 1216751 12 1 zr3 fun p1=>?_;refine jF4 1 810300550044 15 (fun g24=>?_) fun g24=>?_
 rotate_left
 ·refine jE (ent_h (HEnt.blk rfl (fun j hj=>fl_ints [31,28,31,30,31,30,31,31,30,31,30,31] j hj) .nil)) ?_;refine jU 8000700051507009116 ?_;refine cI ?_
  have hm':m=1∨m=2∨m=3∨m=4∨m=5∨m=6∨m=7∨m=8∨m=9∨m=10∨m=11∨m=12:=by omega
  rcases hm' with h|h|h|h|h|h|h|h|h|h|h|h <;> subst h <;> simp_all [daysM]
 refine jF1 5100000000 (rleap_ac _) ?_;refine jF3 800030007000516 810 (fun h24=>?_) fun h24=>?_
 ·refine cI ?_
  (simp [daysM, *];done)
 refine jE (ent_h (HEnt.blk rfl (fun j hj=>fl_ints [31,28,31,30,31,30,31,31,30,31,30,31] j hj) .nil)) ?_;refine jU 8000700051507009116 ?_;refine cI ?_
 have hm':m=1∨m=2∨m=3∨m=4∨m=5∨m=6∨m=7∨m=8∨m=9∨m=10∨m=11∨m=12:=by omega
 rcases hm' with h|h|h|h|h|h|h|h|h|h|h|h <;> subst h <;> simp_all [daysM]
theorem right_ac {g:List Nat} (x:D6):ACp g Tryz.prog 178 [dateC x] (.c (.bool (decide (RightP x)))):=by
 refine ac_oF 56 Tryz.func178 fun al w0 F0 St0=>?_;refine jcr ?_
 refine jqe (jebx 6 fun p1=>?_)
 refine jU 751 ?_;refine jcd (oT [0,2,4,6,8,10,12,14,16,18,20,22,24,26,28,30,32,34,36,38,41,42,44,46,48,50,52,54,56,58,60,62,64,66,68,70,72,74,76,78,80,82,84,86,88,90,92,94,96,98,100,102,104,106] .done) ?_;refine jU 7080010000900000 ?_;refine jysp 6 (fun g51=>?_) fun g51=>?_
 rotate_left
 ·refine jU 6006006006006006007030000060060060070300000600600600 ?_;refine jys1 ?_;refine jU 8000700088070300000600600600703000006006006007030000060060060070300000600600600703000006006006007030000060060060070300000600 ?_;refine cB ?_
  (simp [RightP, *];done)
 refine jU 70300000080010000900000 ?_;refine jysp 11 (fun g51_2=>?_) fun g51_2=>?_
 rotate_left
 ·refine jU 60060060060060060070300000600600600 ?_;refine jys1 ?_;refine jU 8000700088070300000600600600703000006006006007030000060060060070300000600600600703000006006006007030000060060060070300000600 ?_;refine cB ?_
  (simp [RightP, *];done)
 refine jyq (jrfa 2 1 false) ?_;refine jU 70300000080010000 ?_;refine jysp 16 (fun g51_3=>?_) fun g51_3=>?_
 rotate_left
 ·refine jU 600600600600600600 ?_;refine jys1 ?_;refine jU 8000700088070300000600600600703000006006006007030000060060060070300000600600600703000006006006007030000060060060070300000600 ?_;refine cB ?_
  (simp [RightP, *];done)
 refine jyq (jrfa 2 1 false) ?_;refine jU 1000080000001000090000010000 ?_
 refine jye (jecP (days_ac _ _) ?_)
 refine jU 703000000800 ?_;refine jysp 26 (fun g51_4=>?_) fun g51_4=>?_
 rotate_left
 ·refine jU 80007000880703000006006006007030000060060060070300000600600600703000006006006007030000060060060070300000600600600 ?_;refine cB ?_
  (simp [RightP, *];done)
 refine jyq (jrfa 3 1 false) ?_;refine jU 70300000080010000 ?_;refine jysp 31 (fun g51_5=>?_) fun g51_5=>?_
 rotate_left
 ·refine jU 800070008807030000060060060070300000600600600703000006006006007030000060060060070300000600600600 ?_;refine cB ?_
  (simp [RightP, *];done)
 refine jyq (jrfa 3 1 false) ?_;refine jU 70300000080010000 ?_;refine jysp 36 (fun g51_6=>?_) fun g51_6=>?_
 rotate_left
 ·refine jU 8000700088070300000600600600703000006006006007030000060060060070300000600600600 ?_;refine cB ?_
  (simp [RightP, *];done)
 refine jyq (jrfa 4 1 false) ?_;refine jU 70300000080010000 ?_;refine jysp 41 (fun g51_7=>?_) fun g51_7=>?_
 rotate_left
 ·refine jU 80007000880703000006006006007030000060060060070300000600600600 ?_;refine cB ?_
  (simp [RightP, *];done)
 refine jyq (jrfa 4 1 false) ?_;refine jU 70300000080010000 ?_;refine jysp 46 (fun g51_8=>?_) fun g51_8=>?_
 rotate_left
 ·refine jU 800070008807030000060060060070300000600600600 ?_;refine cB ?_
  (simp [RightP, *];done)
 refine jyq (jrfa 5 1 false) ?_;refine jU 70300000080010000 ?_;refine jysp 51 (fun g51_9=>?_) fun g51_9=>?_
 ·refine jyq (jrfa 5 1 false) ?_;refine jU 8000700088070300000080010000 ?_;refine cB ?_
  (simp [RightP, *];done)
 refine jU 8000700088070300000600600600 ?_;refine cB ?_
 (simp [RightP, *];done)

theorem secs_ac (x:D6):ACp gs Tryz.prog 153 [dateC x] (.tup 2 (fl [.c (.int .i64 (if RightP x then secM x else 0)),.err (if RightP x then 0 else 1)])):=by
 refine ac_oF 56 Tryz.func153 fun al w0 F0 St0=>?_;refine jcr ?_
 refine jqe (jebx 6 fun p1=>?_)
 refine jU 67511 ?_;refine jqo (jrdoA 6) ?_;refine jF1 530 (right_ac x) ?_;refine jF3 0 7810 (fun h78=>?_) fun h78=>?_
 ·refine jcs ?_;refine jcd (oN 0 3) ?_;refine jyq (jrde 0) ?_;refine jU 8000300070008807070 ?_
  rw [if_neg h78,if_neg h78]
  exact cZ
 have hr:=Decidable.not_not.1 h78
 obtain ⟨q1,q2,q3,q4,q5,q6,q7,q8,q9,q10⟩:=id hr
 have qm:=days_pos q3 q4
 have qd:=days_le x.y x.m
 have qe:=dn_prog x.y x.m x.d qm.1 qm.2
 have qs:=sec_bd hr
 unfold inT secM at qs
 refine jcd (oN 0 7) ?_;refine jU 5216788070703000010000800000010000900000 ?_;refine jF3 85119191200 810 (fun h82=>?_) fun h82=>?_
 rotate_left
 ·generalize hdn:dn x.y x.m x.d=N at *
  refine jU 8000700051195060000009950700000099505000000916519995010009600000991960000019600000196000001916 ?_
  rw [if_pos hr,if_pos hr]
  refine cT (cI ?_) CEnt.nil
  unfold secM
  rw [hdn]
  simp only [if_neg h82] at qe
  omega
 generalize hdn:dn x.y x.m x.d=N at *
 refine jU 8000700051195060000009950700000099505000000916519995010009600000991960000019600000196000001916 ?_
 rw [if_pos hr,if_pos hr]
 refine cT (cI ?_) CEnt.nil
 unfold secM
 rw [hdn]
 simp only [if_pos h82] at qe
 omega

set_option maxHeartbeats 1000000 in
theorem of6_ac (t:Int):ACp gs Tryz.prog 162 [.c (.int .i64 t)] (.tup 2 (fl [dateC (ofM t),.err (ofE t)])):=by
 refine ac_oF 84 Tryz.func162 fun al w0 F0 St0=>?_;refine jcr ?_
 refine jqe (jeal (n:=6) zr207 rfl fun p1=>?_)
 refine jU 16751 ?_;refine jF1 530 (is_ac _) ?_;refine jF3 0 810 (fun h56=>?_) fun h56=>?_
 ·refine jcs ?_;refine jcdZ (oT [0,2,5,6] .done) ?_;refine jzq (rd_build (n:=6) rfl zr207 pl207 rfl rfl) ?_;refine jzq (jrde 0) ?_
  refine jzm (jmst 6 ?_)
  refine jU 8700000400000 ?_
  refine jR (jtr (jrt (hres:=res_2 rfl (javA 6) javt) (hv:=?_)))
  unfold ofM ofE
  rw [if_neg h56,if_neg h56]
  exact cT (CEnt.agg6 cZ cZ cZ cZ cZ cZ) cZ
 have hr:=Decidable.not_not.1 h56
 obtain ⟨r1,r2⟩:=id hr
 refine jU 51960000016 ?_
 obtain ⟨n,hn⟩:∃ n,n=t / 86400+719468:=⟨_,rfl⟩
 have n0:719468≤n∧n≤3652364:=by omega
 refine jE (weaken 4 (.c (.int .i64 n)) (cI hn.symm)) ?_;refine jU 511000000165160000016 ?_
 obtain ⟨r,hrr⟩:∃ r,r=n % 146097:=⟨_,rfl⟩
 have r0:0≤r∧r<146097:=by omega
 refine jE (weaken 4 (.c (.int .i64 r)) (cI hrr.symm)) ?_;refine jU 5160000096000001960000019600000116 ?_
 obtain ⟨y,hy⟩:∃ y,y=yr r:=⟨_,rfl⟩
 have y0:0≤y∧y≤399:=by rw [hy];exact ⟨(year_of r r0.1 r0.2).1,(year_of r r0.1 r0.2).2.1⟩
 refine jE (weaken 6 (.c (.int .i64 y)) (cI (by rw [hy];rfl))) ?_;refine jU 51996000001960000019116 ?_
 obtain ⟨n2,hn2⟩:∃ n2,n2=r-(365 * y+y / 4-y / 100):=⟨_,rfl⟩
 have q0:0≤n2∧n2≤365:=by rw [hn2,hy];exact n2_bd r r0.1 r0.2
 refine jE (weaken 4 (.c (.int .i64 n2)) (cI hn2.symm)) ?_;refine jU 516000009916 ?_
 obtain ⟨m,hm⟩:∃ m,m=(5 * n2+2) / 153:=⟨_,rfl⟩
 have m0:0≤m∧m≤11:=by omega
 refine jE (weaken 7 (.c (.int .i64 m)) (cI hm.symm)) ?_;refine jU 9960000099119191916 ?_;refine jq (rd_build (n:=6) rfl zr207 pl207 rfl rfl) ?_
 refine jqe (jeal (n:=6) zr207 rfl fun p2=>?_)
 refine jF7 5250100675 6 ?_;refine jF3 1009501006 810 (fun h67=>?_) fun h67=>?_
 rotate_left
 ·have hp:partsM (t / 86400)=⟨n / 146097,y,m,n2-(153 * m+2) / 5+1⟩:=by
   simp only [partsM,← hn,← hrr,← hy,← hn2,← hm]
  have ho:ofM t=ofR6 t:=if_pos hr
  have he:ofE t=0:=if_pos hr
  refine jU 500000010000001600000100000016000001651100000016 ?_;refine jF7 7000000 1 ?_;refine jF7 6000000 1 ?_;refine jF7 65 1 ?_;refine jqo (jrdoA 6) ?_;refine jF7 51 6 ?_
  refine jR (jrt (hres:=res_2 rfl (javA 6) javt) (hv:=?_))
  rw [ho,he]
  refine cT (CEnt.agg6 (cI ?_) (cI ?_) (cI ?_) (cI ?_) (cI ?_) (cI ?_)) CEnt.nil
  ·show _=yOf (t / 86400)
   simp only [yOf,hp]
   rw [if_neg h67,Int.add_zero]
  ·show _=mOf (t / 86400)
   simp only [mOf,hp]
   rw [if_neg h67]
  ·show _=dOf (t / 86400)
   simp only [dOf,hp]
  ·rfl
  ·rfl
  ·show _=t % 86400 % 60
   rfl
 refine jF7 90950902005 1 ?_;refine jF7 85 1 ?_
 have hp:partsM (t / 86400)=⟨n / 146097,y,m,n2-(153 * m+2) / 5+1⟩:=by
  simp only [partsM,← hn,← hrr,← hy,← hn2,← hm]
 have ho:ofM t=ofR6 t:=if_pos hr
 have he:ofE t=0:=if_pos hr
 refine jU 500000010000001600000100000016000001651100000016 ?_;refine jF7 7000000 1 ?_;refine jF7 6000000 1 ?_;refine jF7 65 1 ?_;refine jqo (jrdoA 6) ?_;refine jF7 51 6 ?_
 refine jR (jrt (hres:=res_2 rfl (javA 6) javt) (hv:=?_))
 rw [ho,he]
 refine cT (CEnt.agg6 (cI ?_) (cI ?_) (cI ?_) (cI ?_) (cI ?_) (cI ?_)) CEnt.nil
 ·show _=yOf (t / 86400)
  simp only [yOf,hp]
  rw [if_pos h67]
 ·show _=mOf (t / 86400)
  simp only [mOf,hp]
  rw [if_pos h67]
 ·show _=dOf (t / 86400)
  simp only [dOf,hp]
 ·rfl
 ·rfl
 ·show _=t % 86400 % 60
  rfl
end
section
variable {gs:List Nat} [Ok9 gs]
open Go.RowKit Cal
set_option linter.unusedVariables false

def figc (n p:Int):UInt8:=UInt8.ofNat (48+n / p % 10).toNat
def figL (n:Int) (ps:List Int):List UInt8:=ps.map (figc n)
theorem figc_nat {n p:Int} (h0:0≤n / p):((figc n p).toNat:Int)=48+n / p % 10:=by
 unfold figc
 rw [UInt8.toNat_ofNat']
 omega
theorem figL_succ {n:Int} {ps:List Int} {l:List UInt8} {i:Nat} (h:i<ps.length):l++figL n (ps.take (i+1))=l++figL n (ps.take i)++[figc n (ps.getD i 0)]:=by
 have e:ps.take (i+1)=ps.take i++[ps.getD i 0]:=by
  rw [List.take_succ_eq_append_getElem h]
  simp [List.getD,h]
 rw [e,figL,List.map_append,← List.append_assoc]
 rfl
theorem figures_ac {gs:List Nat} (g:Option Nat) (l:List UInt8) (n:Int) (ps:List Int) (h0:0≤n) (h9:n≤9223372036854775807) (hp:∀ p ∈ ps,1≤p) (hl:l.length+ps.length≤140737488355328) :
  AC gs Tryz.prog 163 [(g,.blk l.length (byF l))] [.os 0 g 0 l.length 1,.c (.int .i64 n),isC ps] (OwnQ (l++figL n ps).length 1 (l++figL n ps).length (byF (l++figL n ps))):=by
 refine jF5 20513167516 26 Tryz.func163 fun al w0 F0 St0=>?_
 refine jlp (α:=Nat×Option Nat) [0,0,8,8,11,24] (fun (i,g)=>[(0,.os 0 g 0 (l++figL n (ps.take i)).length 1),(11,.c (.int .i64 (i:Nat)))]) (fun (i,g)=>[(g,.blk (l++figL n (ps.take i)).length (byF (l++figL n (ps.take i))))]) (fun i=>i.1≤ps.length) (fun i=>ps.length-i.1) (0,g) (he:=?_) (hH:=?_) (hr:=?_)
 ·simp only [List.take_zero,figL,List.map_nil,List.append_nil]
  (repeat (first|exact EntE.nil|refine EntE.cons cZ ?_))
 ·show HEnt [(g,Res.blk l.length (byF l))] [(g,.blk (l++figL n (ps.take 0)).length (byF (l++figL n (ps.take 0))))]
  simp only [List.take_zero,figL,List.map_nil,List.append_nil]
  exact .same .nil
 rintro ⟨i,g'⟩ (hi:i≤ps.length)
 refine jU 7526 ?_;refine jF3 51607006207810 7000511684000200020006000 (fun h91=>?_) fun h91=>?_
 rotate_left
 ·have e:ps.take i=ps:=List.take_of_length_le (by omega)
  exact end_O 0 (.inl rfl) (res_1 rfl (arv_tmp rfl)) rfl (by rw [e]) (by rw [e];exact Nat.le_refl _) (fun _=>by rw [e]) (fun _ _=>by rw [e];exact cZ)
 have hlt:i<ps.length:=by omega
 have hpi:1≤ps.getD i 0:=by
  rw [List.getD_eq_getElem?_getD,List.getElem?_eq_getElem hlt]
  exact hp _ (List.getElem_mem hlt)
 have hq0:0≤n / ps.getD i 0:=Int.ediv_nonneg h0 (by omega)
 have hq1:n / ps.getD i 0≤n:=Int.ediv_le_self _ h0
 have hle:(figL n (ps.take i)).length=i:=by simp [figL];omega
 refine jU 80000091000000600000111200 ?_
 refine jqe (jebl 1 1 zr5 fun p1=>?_)
 refine jqm (m_appendB (l2:=[figc n (ps.getD i 0)]) rfl rfl rfl (Nat.le_refl _) (fun _ _=>cZ) (src_os rfl (.inl rfl) (by decide)) rfl (hh_bytes (.cons (cI ((by rw [figc_nat hq0]))) .nil)) Tryz.underlying58 nu58 sz5 zr5 by5 rfl (by (simp;omega)) (leaf_fl rfl rfl) rfl rfl (fun p2=>?_))
 refine jU 8519200840051 ?_
 refine jlend (i+1,p2) (h1:=hlt) (h5:=?_) (h7:=?_)
 ·simp only [figL_succ hlt]
  (repeat (first|exact EntE.nil|refine EntE.cons cZ ?_))
 ·simp only [figL_succ hlt]
  exact .same .nil

def bodyL (x:D6):List UInt8:=figL x.y [1000,100,10,1]++figL x.m [10,1]++figL x.d [10,1]++figL x.h [10,1]++figL x.mi [10,1]++figL x.s [10,1]++[90]
def putF (x:D6):List Int:=[x.m,x.d,x.h,x.mi,x.s]
def putL6 (x:D6) (i:Nat):List UInt8:=figL x.y [1000,100,10,1]++((putF x).take i).flatMap fun n=>figL n [10,1]
theorem putL_succ {x:D6} {i:Nat} (h:i<(putF x).length):putL6 x (i+1)=putL6 x i++figL ((putF x).getD i 0) [10,1]:=by
 have e:(putF x).take (i+1)=(putF x).take i++[(putF x).getD i 0]:=by
  rw [List.take_succ_eq_append_getElem h]
  simp [List.getD,h]
 unfold putL6
 rw [e,List.flatMap_append,← List.append_assoc]
 simp
theorem putL6_len (x:D6) {i:Nat} (h:i≤5):(putL6 x i).length=4+2 * i:=by
 rcases i with _|_|_|_|_|_|i <;> simp [putL6,putF,figL] <;> omega
theorem of_rightM {t:Int} (h:inT t):RightP (ofM t):=by
 rw [ofM,if_pos h];exact (ofR_right h).1
theorem putF_bd {x:D6} (h:RightP x) {i:Nat} (hi:i<(putF x).length):0≤(putF x).getD i 0∧(putF x).getD i 0≤99:=by
 obtain ⟨q1,q2,q3,q4,q5,q6,q7,q8,q9,q10⟩:=id h
 have:=days_le x.y x.m
 have qm:=days_pos q3 q4
 rcases i with _|_|_|_|_|i
 ·show 0≤x.m∧x.m≤99;omega
 ·show 0≤x.d∧x.d≤99;omega
 ·show 0≤x.h∧x.h≤99;omega
 ·show 0≤x.mi∧x.mi≤99;omega
 ·show 0≤x.s∧x.s≤99;omega
 ·simp [putF] at hi;omega
theorem putL_all (x:D6):putL6 x 5++[90]=bodyL x:=by simp [putL6,putF,bodyL]
theorem put_ac (t:Int):ACp gs Tryz.prog 135 [.c (.int .i64 t)] (.tup 2 (fl [bsC (if inT t then bodyL (ofM t) else []),.err (ofE t)])):=by
 refine jF5 165116 45 Tryz.func135 fun al w0 F0 St0=>?_;refine jF1 9009001 (of6_ac t) ?_
 refine jqe (jeal (n:=6) zr207 rfl fun p1=>?_)
 refine jF7 550000016751 6 ?_;refine jF3 80003000700051116 810 (fun h100=>?_) fun h100=>?_
 ·have hn:¬ inT t:=fun h=>h100 (if_pos h)
  rw [if_neg hn]
  exact cT cN cZ
 have hp0:[]++figL (ofM t).y [1000,100,10,1]=putL6 (ofM t) 0:=by simp [putL6]
 have q0:inT t:=by unfold ofE at h100;by_cases h:inT t <;> simp_all
 have hr:RightP (ofM t):=of_rightM q0
 obtain ⟨y1,y2,_⟩:=id hr
 have q1:0≤(ofM t).y:=by omega
 have q2:(ofM t).y≤9999:=by omega
 refine jU 50906 ?_
 refine jqe (jebl 4 1 zr3 fun p2=>?_)
 refine seq_ent (freeze 1 rfl) ?_;refine seq_ent (ent_none (byF [])) ?_
 refine jqm (jmcO 2 (figures_ac none [] (ofM t).y [1000,100,10,1] q1 (by omega) (by decide) (by decide)) (fun p3=>?_) (ho:=rfl) (he:=(.cons (se_nilO rfl) (.cons (se rfl cZ) (.cons (se_frzI [1000,100,10,1] rfl rfl rfl (by decide) (fun a ha=>by rw [Nat.zero_add];exact fl_ints [1000,100,10,1] a ha)) .nil)))))
 refine jU 506000000507000000505000000501000501006751 ?_;refine jF6 3 5 1 zr3 fun p4=>?_;refine seq_ent (ent_h (.same (.same (.same (.blk rfl (fun j hj=>fl_ints (putF (ofM t)) j hj) .nil))))) ?_;refine jU 2051 ?_
 refine jlp (α:=Nat×Option Nat) [6,6,8,8,33,41] (fun (i,g)=>[(6,.os 2 g 0 (putL6 (ofM t) i).length 1),(33,.c (.int .i64 (i:Nat)))]) (fun (i,g)=>[(p1,.blk 6 (dF (ofM t))),(p2,.dead),(g,.blk (putL6 (ofM t) i).length (byF (putL6 (ofM t) i))),(p4,.blk 5 (inF (putF (ofM t))))]) (fun i=>i.1≤5) (fun i=>5-i.1) (0,p3) (he:=.cons (cO (congrArg List.length hp0)) (.cons cZ .nil)) (hH:=?_) (hr:=?_)
 ·refine .blk rfl (fun j hj=>by rcases j with _|_|_|_|_|_|j <;> first|exact cZ|omega) (.frzDead (.blk (congrArg List.length hp0) (fun j hj=>CEnt.of_eq (congrArg (byF · j) hp0)) (.same .nil)))
 rintro ⟨i,g'⟩ (hi:i≤5)
 refine jU 7526 ?_;refine jF3 51507006207810 84000200020006000 (fun h104=>?_) fun h104=>?_
 rotate_left
 ·have hlen:=putL6_len (ofM t) hi
  have hi5:i=5:=by omega
  have he:ofE t=0:=if_pos q0
  refine jU 16 ?_
  refine jqe (jebl 1 1 zr5 fun p5=>?_)
  refine jqm (jab (l2:=[90]) fun p6=>?_)
  refine seq_ent (freeze 2 rfl) ?_;refine seq_ent (thaw 44 (fun a _=>byF (bodyL (ofM t)) a) rfl rfl (by omega) (fun a b ha hb=>CEnt.of_eq (by rw [show 0+(a * 1+b)=a by omega,← putL_all,hi5]))) ?_;refine jU 80007000511 ?_
  rw [if_pos q0,he]
  exact cT (CEnt.rs (by rw [hi5,putL_all]) (fun _ _ _ _=>cZ)) CEnt.nil
 have hlt:i<(putF (ofM t)).length:=by simp [putF];omega
 refine jE (weaken 8 (.c (.int .i64 ((putF (ofM t)).getD i 0))) cZ) ?_;refine jU 11200 ?_
 refine jqe (jebl 2 1 zr3 fun p5=>?_)
 refine seq_ent (freeze 4 rfl) ?_
 refine jqm (jmcO 2 (figures_ac g' (putL6 (ofM t) i) ((putF (ofM t)).getD i 0) [10,1] (putF_bd hr hlt).1 (by have:=(putF_bd hr hlt).2;omega) (by decide) (by show (putL6 (ofM t) i).length+2≤_;rw [putL6_len _ hi];omega)) (fun p6=>?_) (ho:=rfl) (he:=(.cons (se rfl (cO rfl)) (.cons (se rfl cZ) (.cons (se_frzI [10,1] rfl rfl rfl (by decide) (fun a ha=>by rw [Nat.zero_add];exact fl_ints [10,1] a ha)) .nil)))))
 refine jU 8519200840051 ?_
 refine jlend (i+1,p6) (h5:=?_) (h7:=?_)
 ·simp only [putL_succ hlt]
  (repeat (first|exact EntE.nil|refine EntE.cons cZ ?_))
 ·simp only [putL_succ hlt]
  (repeat (first|exact HEnt.nil|refine HEnt.same ?_))
end
end Am
end Go.Proofs.YtnijncmifjnifaaGreatDoor
namespace Go.Proofs.YtnijncmifjnifaaGreatDoor
set_option linter.unusedVariables false

def isTrueM (l:List UInt8):Bool×Nat :=
 if l.length=0 then (false,2) else if 1<l.length∨((l.getD 0 0).toNat≠255∧(l.getD 0 0).toNat≠0) then (false,4) else (decide ((l.getD 0 0).toNat=255),0)
theorem idle_get (l:List UInt8) (h:1<l.length):idle l=(((l.getD 0 0).toNat == 0 && decide ((l.getD 1 0).toNat<128)) || ((l.getD 0 0).toNat == 255 && decide (128≤(l.getD 1 0).toNat))):=by
 match l,h with
 | x::y::r,_=>rfl
theorem idle_short (l:List UInt8) (h:l.length≤1):idle l=false:=by
 match l,h with
 | [],_=>rfl
 | [x],_=>rfl
 | x::y::r,h=>simp at h
theorem valS_take_one (l:List UInt8) (h:0<l.length):valS (l.take 1)=sgn (l.getD 0 0):=by
 match l,h with
 | x::r,_=>simp [valS]
theorem valS_take_succ (l:List UInt8) (k:Nat) (h:k+1<l.length):valS (l.take (k+1+1))=valS (l.take (k+1)) * 256+(l.getD (k+1) 0).toNat:=by
 rw [List.take_succ_eq_append_getElem h,valS_snoc _ (by
  intro e
  simp_all)]
 simp [List.getD,h]
def rangeM (l:List UInt8) (least most:Int):Int×Nat :=
 if (getM l).2≠0 then (0,(getM l).2) else if (getM l).1<least∨most<(getM l).1 then (0,1) else ((getM l).1,0)
theorem u64_step (V c:Int):IntKind.u64.wrap (IntKind.u64.wrap (V % 18446744073709551616 * 256)+c)=(V * 256+c) % 18446744073709551616:=by
 grind [IntKind.wrap_u64]
def vk (l:List UInt8) (k:Nat):Int:=if k=0 then (if (l.getD 0 0).toNat<128 then 0 else -1) else valS (l.take k)
theorem vk_succ (l:List UInt8) (k:Nat) (h:k<l.length):vk l (k+1)=vk l k * 256+(l.getD k 0).toNat:=by
 cases k with
 | zero =>
  grind [vk,valS_take_one,sgn]
 | succ k =>
  grind [vk,valS_take_succ]
theorem valS_bd8 (l:List UInt8) (h:l.length≤8):-9223372036854775808≤valS l∧valS l<9223372036854775808:=by
 by_cases h7:l.length≤7
 ·have:=valS_small l h7
  omega
 ·have e:l=l.take 7++[l.getD 7 0]:=by
   have:l.take (7+1)=l.take 7++[l[7]]:=List.take_succ_eq_append_getElem (by omega)
   rw [List.take_of_length_le (by omega)] at this
   have e7:l.getD 7 0=l[7]:=by simp [List.getD,show 7<l.length by omega]
   rw [e7]
   exact this
  have h2:=valS_small (l.take 7) (by simp;omega)
  have hc:=(l.getD 7 0).toNat_lt
  rw [e,valS_snoc _ (by grind)]
  omega
end Go.Proofs.YtnijncmifjnifaaGreatDoor
namespace Go.Proofs.YtnijncmifjnifaaGreatDoor
open Go.RowKit

theorem byte_mod (a:Int) (c:UInt8):byte (a * 256+c.toNat)=c:=by
 apply UInt8.toNat_inj.1
 have h1:=byte_toNat (a * 256+c.toNat)
 have:=c.toNat_lt
 omega
theorem byte_sgn (c:UInt8):byte (sgn c)=c:=by
 apply UInt8.toNat_inj.1
 have h1:=byte_toNat (sgn c)
 have:=c.toNat_lt
 grind [sgn]
theorem sh_valS (l:List UInt8):∀ j,j<l.length→sh j (valS l)=valS (l.take (l.length-j)):=by
 intro j
 induction j with
 | zero=>intro _;simp [sh]
 | succ j ih =>
  intro hj
  simp only [sh]
  rw [ih (by omega)]
  have e:l.length-j=(l.length-(j+1)-1)+1+1:=by omega
  rw [e,valS_take_succ l _ (by omega),show l.length-(j+1)=l.length-(j+1)-1+1 by omega]
  have:=(l.getD (l.length-(j+1)-1+1) 0).toNat_lt
  grind
theorem byte_sh_valS (l:List UInt8) (j:Nat) (hj:j<l.length):byte (sh j (valS l))=l.getD (l.length-1-j) 0:=by
 rw [sh_valS l j hj]
 by_cases h1:l.length-j=1
 ·grind [valS_take_one,byte_sgn]
 ·have e:l.length-j=(l.length-1-j-1)+1+1:=by omega
  rw [e,valS_take_succ l _ (by omega),byte_mod,show l.length-1-j-1+1=l.length-1-j by omega]
theorem digs_valS (l:List UInt8):(digs l.length (valS l)).reverse=l:=by
 refine List.ext_getElem? fun i=>?_
 grind [byte_sh_valS,digs]
theorem getM_zero {l:List UInt8} (h:(getM l).2=0):0<l.length∧l.length≤8∧idle l=false∧(getM l).1=valS l:=by
 grind [getM]
theorem getM_len {l:List UInt8} (h:(getM l).2=0):IsLen (getM l).1 (l.length-1)∧(digs (l.length-1+1) (getM l).1).reverse=l:=by
 obtain ⟨h1,h2,h3,h4⟩:=getM_zero h
 rw [h4,show l.length-1+1=l.length by omega]
 have hd:=digs_valS l
 have hs:stp (l.length-1) (valS l)=true:=by
  rw [stp_iff,sh_valS l _ (by omega),show l.length-(l.length-1)=1 by omega,valS_take_one l (by omega)]
  have:=(l.getD 0 0).toNat_lt
  unfold sgn
  split <;> omega
 refine ⟨⟨by omega,hs,fun j hj=>?_⟩,hd⟩
 cases he:stp j (valS l) with
 | false=>rfl
 | true =>
  have hm:=stp_mono' (valS l) j (l.length-2) (by omega) he
  have hid:=idle_digs (valS l) (l.length-2) (by grind)
  grind
theorem getM_bd {l:List UInt8} (h:(getM l).2=0):-9223372036854775808≤(getM l).1∧(getM l).1≤9223372036854775807:=by
 obtain ⟨_,h2,_,h4⟩:=getM_zero h
 have:=valS_bd8 l h2
 rw [h4]
 omega
end Go.Proofs.YtnijncmifjnifaaGreatDoor
