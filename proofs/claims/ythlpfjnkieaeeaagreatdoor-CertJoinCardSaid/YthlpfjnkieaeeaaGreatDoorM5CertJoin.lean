/- What the law leans on, part 5: W03, W03b, L03, SlC, NumB, MarkC, L03p, P07s, P07d, P07, P07b, P04, Dec, P05, P05b, P06, W06, W06b, P04n, P04b, W04n -/
import Derived.Test.YthlpfjnkieaeeaaGreatDoorM4CertJoin
import Derived.Sort.Statements
import Derived.Lib.DecodeN
import Derived.Lib.ValidU
import Derived.Test.YthlpfjnkieaeeaaGreatDoorChecked
import Derived.Laws.BitsAllLaws
import Derived.IntWalk
import Derived.Lib.Join
import Derived.WalkKit

set_option maxRecDepth 100000
namespace Go.Proofs.YthlpfjnkieaeeaaGreatDoor
set_option linter.unusedVariables false
namespace Am
open Go.RowKit
section
variable {gs:List Nat} [Ok9 gs]

theorem made_ac {gs:List Nat} (t:Int):ACp gs Tryz.prog 126 [.c (.int .i64 t)] (.c (.bool (madeM t))):=by
 refine ac_of 17 Tryz.func126 rfl rfl rfl (fun al w0 F0 St0=>?_)
 refine jU 1216516 ?_;refine jqsp 5 (fun g31=>?_) fun g31=>?_
 ·refine jU 5180004444441800044 ?_
  refine jR (jrt (hv:=?_))
  refine cB ?_
  (simp [madeM, *];done)
 refine jU 150021 ?_;refine jqsp 9 (fun g31_2=>?_) fun g31_2=>?_
 ·refine jU 518000444444 ?_
  refine jR (jrt (hv:=?_))
  refine cB ?_
  (simp [madeM, *];done)
 refine jU 121 ?_;refine jqsp 12 (fun g31_3=>?_) fun g31_3=>?_
 ·refine jU 51500800021 ?_
  refine jR (jrt (hv:=?_))
  refine cB ?_
  (simp [madeM, *];done)
 refine jU 5150050044 ?_
 refine jR (jrt (hv:=?_))
 refine cB ?_
 (simp [madeM, *];done)
theorem rmade_ac {gs:List Nat} (t:Int):ACp gs Tryz.prog 134 [.c (.int .i64 t)] (.c (.bool (madeM t))):=by
 refine ac_of 17 Tryz.func134 rfl rfl rfl (fun al w0 F0 St0=>?_)
 refine jU 1216516 ?_;refine jqsp 5 (fun g13=>?_) fun g13=>?_
 ·refine jU 5180004444441800044 ?_
  refine jR (jrt (hv:=?_))
  refine cB ?_
  (simp [madeM, *];done)
 refine jU 150021 ?_;refine jqsp 9 (fun g13_2=>?_) fun g13_2=>?_
 ·refine jU 518000444444 ?_
  refine jR (jrt (hv:=?_))
  refine cB ?_
  (simp [madeM, *];done)
 refine jU 121 ?_;refine jqsp 12 (fun g13_3=>?_) fun g13_3=>?_
 ·refine jU 51500800021 ?_
  refine jR (jrt (hv:=?_))
  refine cB ?_
  (simp [madeM, *];omega)
 refine jU 5150050044 ?_
 refine jR (jrt (hv:=?_))
 refine cB ?_
 (simp [madeM, *];done)
theorem plain_ac {gs:List Nat}:ACp gs Tryz.prog 263 [] (isC plainT):=by
 refine ac_of 2 Tryz.func263 rfl rfl rfl (fun al w0 F0 St0=>?_)
 refine jU 6516 ?_
 refine jqe (jebl 9 1 zr3 fun p1=>?_)
 refine jU 51 ?_;refine jE (freeze 0 rfl) ?_;refine jE (thawIL 0 (plainT) rfl rfl rfl rfl (fun j hj=>fl_ints (plainT) j hj)) ?_
 refine jR (jrt (hv:=cZ))
theorem known_ac {gs:List Nat} (t:Int):ACp gs Tryz.prog 236 [.c (.int .i64 t)] (.c (.bool (knownM t))):=by
 refine ac_of 10 Tryz.func236 rfl rfl rfl (fun al w0 F0 St0=>?_)
 refine jU 16516 ?_
 refine jqe (jecP (made_ac _) ?_)
 refine jU 1 ?_;refine jqsp 5 (fun g35=>?_) fun g35=>?_
 ·refine jU 518000444 ?_
  refine jR (jrt (hv:=?_))
  refine cB ?_
  try rw [plain_known]
  (simp [knownM,madeM, *];done)
 refine jqe (jecP plain_ac ?_)
 refine jU 1 ?_
 refine jqe (jecP (contains64_ac plainT t) ?_)
 refine jU 51500 ?_
 refine jR (jrt (hv:=?_))
 refine cB ?_
 try rw [plain_known]
 (simp [knownM,madeM, *];done)
theorem rknown_ac {gs:List Nat} (t:Int):ACp gs Tryz.prog 132 [.c (.int .i64 t)] (.c (.bool (knownM t))):=by
 refine ac_of 25 Tryz.func132 rfl rfl rfl (fun al w0 F0 St0=>?_)
 refine jU 16516 ?_
 refine jqe (jecP (rmade_ac _) ?_)
 refine jU 1 ?_;refine jqsp 5 (fun g16=>?_) fun g16=>?_
 ·refine jU 518000441800044180004418000444444 ?_
  refine jR (jrt (hv:=?_))
  refine cB ?_
  (simp [knownM,madeM, *];done)
 refine jU 121 ?_;refine jqsp 8 (fun g16_2=>?_) fun g16_2=>?_
 rotate_left
 ·refine jU 150021150050044 ?_;refine jqsp 17 (fun g16_3=>?_) fun g16_3=>?_
  ·refine jU 518000441800044 ?_
   refine jR (jrt (hv:=?_))
   refine cB ?_
   (simp [knownM,madeM, *];done)
  refine jU 150021 ?_;refine jqsp 21 (fun g16_4=>?_) fun g16_4=>?_
  ·refine jU 51800044 ?_
   refine jR (jrt (hv:=?_))
   refine cB ?_
   (simp [knownM,madeM, *];done)
  refine jU 5150021 ?_
  refine jR (jrt (hv:=?_))
  refine cB ?_
  (simp [knownM,madeM, *];done)
 refine jU 1500800021 ?_;refine jqsp 13 (fun g16_3=>?_) fun g16_3=>?_
 ·refine jU 5180004418000441800044 ?_
  refine jR (jrt (hv:=?_))
  refine cB ?_
  (simp [knownM,madeM, *];done)
 refine jU 150021 ?_;refine jqsp 17 (fun g16_4=>?_) fun g16_4=>?_
 ·refine jU 518000441800044 ?_
  refine jR (jrt (hv:=?_))
  refine cB ?_
  (simp [knownM,madeM, *];done)
 refine jU 150021 ?_;refine jqsp 21 (fun g16_5=>?_) fun g16_5=>?_
 ·refine jU 51800044 ?_
  refine jR (jrt (hv:=?_))
  refine cB ?_
  (simp [knownM,madeM, *];done)
 refine jU 5150021 ?_
 refine jR (jrt (hv:=?_))
 refine cB ?_
 (simp [knownM,madeM, *];done)
theorem rlen_ac {gs:List Nat} (n:Nat) (hn:n<4294967296):ACp gs Tryz.prog 133 [.c (.int .i64 n)] (bsC (lenL n)):=by
 refine ac_of 50 Tryz.func133 rfl rfl rfl (fun al w0 F0 St0=>?_)
 refine jU 52167516 ?_;refine jcc (fun h21=>?_) fun h21=>?_
 ·refine jU 80000016 ?_
  refine jqe (jebl 1 1 zr5 fun p1=>?_)
  refine jU 51 ?_;refine jE (freeze 0 rfl) ?_;refine jE (thawBL 2 ([b8 n]) rfl rfl rfl rfl (.cons (cI ((by rw [b8_mod];omega))) .nil)) ?_
  refine jR (jtr (jrt (hv:=CEnt.bs (by unfold lenL;rw [if_pos (by omega)]))))
 refine jU 52167810 ?_;refine jcc (fun h24=>?_) fun h24=>?_
 ·refine jU 80000016 ?_
  refine jqe (jebl 2 1 zr5 fun p1=>?_)
  refine jU 51 ?_;refine jE (freeze 0 rfl) ?_;refine jE (thawBL 2 ([129,b8 n]) rfl rfl rfl rfl (.cons (cI (rfl)) (.cons (cI ((by rw [b8_mod];omega))) .nil))) ?_
  refine jR (jtr (jrt (hv:=CEnt.bs (by unfold lenL;rw [if_neg (by omega),if_pos (by omega)]))))
 refine jU 52167810 ?_;refine jcc (fun h27=>?_) fun h27=>?_
 ·refine jU 8000001000000180000060000016 ?_
  refine jqe (jebl 3 1 zr5 fun p1=>?_)
  refine jU 51 ?_;refine jE (freeze 0 rfl) ?_;refine jE (thawBL 2 ([130,b8 (n / 256),b8 n]) rfl rfl rfl rfl (.cons (cI (rfl)) (.cons (cI ((by rw [b8_mod];omega))) (.cons (cI ((by rw [b8_mod];omega))) .nil)))) ?_
  refine jR (jtr (jrt (hv:=CEnt.bs (by unfold lenL;rw [if_neg (by omega),if_neg (by omega),if_pos (by omega)]))))
 refine jU 52167810 ?_;refine jcc (fun h30=>?_) fun h30=>?_
 ·refine jU 800000100000018000001000000600000180000060000016 ?_
  refine jqe (jebl 4 1 zr5 fun p1=>?_)
  refine jU 51 ?_;refine jE (freeze 0 rfl) ?_;refine jE (thawBL 2 ([131,b8 (n / 65536),b8 (n / 256),b8 n]) rfl rfl rfl rfl (.cons (cI (rfl)) (.cons (cI ((by rw [b8_mod];omega))) (.cons (cI ((by rw [b8_mod];omega))) (.cons (cI ((by rw [b8_mod];omega))) .nil))))) ?_
  refine jR (jtr (jrt (hv:=CEnt.bs (by unfold lenL;rw [if_neg (by omega),if_neg (by omega),if_neg (by omega),if_pos (by omega)]))))
 refine jU 80000010000001800000100000060000018000001000000600000180000060000016810 ?_
 refine jqe (jebl 5 1 zr5 fun p1=>?_)
 refine jU 51 ?_;refine jE (freeze 0 rfl) ?_;refine jE (thawBL 2 ([132,b8 (n / 16777216),b8 (n / 65536),b8 (n / 256),b8 n]) rfl rfl rfl rfl (.cons (cI (rfl)) (.cons (cI ((by rw [b8_mod];omega))) (.cons (cI ((by rw [b8_mod];omega))) (.cons (cI ((by rw [b8_mod];omega))) (.cons (cI ((by rw [b8_mod];omega))) .nil)))))) ?_
 refine jR (jrt (hv:=CEnt.bs (by unfold lenL;rw [if_neg (by omega),if_neg (by omega),if_neg (by omega),if_neg (by omega)])))
def lowL (n k:Nat):List UInt8:=(List.range k).map fun i=>b8 (n / 256 ^ i)
theorem lowL_succ (n k:Nat):lowL n (k+1)=lowL n k++[b8 (n / 256 ^ k)]:=by simp [lowL,List.range_succ]
theorem lowL_len (n k:Nat):(lowL n k).length=k:=by simp [lowL]
theorem length_ac {gs:List Nat} (n:Nat) (hn:n<65536):ACp gs Tryz.prog 239 [.c (.int .i64 n)] (bsC (lenL n)):=by
 refine ac_of 28 Tryz.func239 rfl rfl rfl (fun al w0 F0 St0=>?_)
 refine jU 52167516 ?_;refine jcc (fun h39=>?_) fun h39=>?_
 ·refine jU 80000016 ?_
  refine jqe (jebl 1 1 zr5 fun p1=>?_)
  refine jU 51 ?_;refine jE (freeze 0 rfl) ?_;refine jE (thawBL 2 ([b8 n]) rfl rfl rfl rfl (.cons (cI ((by rw [b8_mod];omega))) .nil)) ?_
  refine jR (jtr (jrt (hv:=CEnt.bs (by unfold lenL;rw [if_pos (by omega)]))))
 refine jU 207516810 ?_;refine jE (own_nil 3 1 (byF []) rfl) ?_;refine l_loop (α:=Nat×Option Nat) [0,3,9,10,11,12,13,14,15,16,17] (fun (k,g)=>[(0,.c (.int .i64 ((n / 256 ^ k:Nat):Int))),(3,.os 0 g 0 (lowL n k).length 1)]) (fun (k,g)=>[(g,.blk (lowL n k).length (byF (lowL n k)))]) (fun k=>k.1=0∨k.1=1∨(k.1=2∧256≤n)) (fun k=>2-k.1) ((0,none)) ?_ (fun _=>rfl) ?_ ?_ ?_
 ·exact .inl rfl
 ·exact .cons (cI (by simp)) (.cons cZ .nil)
 ·exact .same .nil
 ·rintro ⟨k,g'⟩ (hk:k=0∨k=1∨(k=2∧256≤n))
  refine jU 52167 ?_;refine jcc (fun h43=>?_) fun h43=>?_
  ·refine jU 207810 ?_
   have hlk:=lowL_len n k
   have hk3:k≤2:=by omega
   refine jU 11200 ?_;refine jq (jrvW .i64 .u8) ?_
   refine jqe (jebl 1 1 zr5 fun p1=>?_)
   refine jqm (m_appendB (l2:=[b8 (n / 256 ^ k)]) rfl rfl rfl (Nat.le_refl _) (fun _ _=>cZ) (src_os rfl (.inl rfl) (by decide)) rfl (hh_bytes (.cons (cI ((by rw [b8_mod];generalize n / 256 ^ k=q;(simp only [IntKind.wrap_u8];omega)))) .nil)) Tryz.underlying22 nu22 sz5 zr5 by5 rfl (by (simp;omega)) (leaf_fl rfl rfl) rfl rfl (fun p2=>?_))
   refine jU 1200840051 ?_;refine jq (rd_shr rfl rfl rfl (by (omega)) _ rfl) ?_;refine jU 851 ?_
   refine jlend ((k+1,p2)) ?_ ?_ (h5:=?_) (h7:=?_)
   ·show k+1=0∨k+1=1∨(k+1=2∧256≤n)
    rcases hk with rfl|rfl|⟨rfl,h2⟩
    ·omega
    ·simp at h43;omega
    ·simp at h43;omega
   ·show 2-(k+1)<2-k
    rcases hk with rfl|rfl|⟨rfl,h2⟩
    ·omega
    ·omega
    ·simp at h43;omega
   ·simp only [lowL_succ]
    exact .cons (cI (by rw [Nat.pow_succ,← Nat.div_div_eq_div_mul,Int.fdiv_eq_ediv_of_nonneg _ (by decide)];rfl)) (.cons cZ .nil)
   ·simp only [lowL_succ]
    exact .same .nil
  refine jU 84000200020006000 ?_
  have hlk:=lowL_len n k
  have hk3:k≤2:=by omega
  refine jU 80000093116 ?_
  refine jqe (jebl 1 1 zr5 fun p1=>?_)
  refine jqm (m_appendB (l2:=[b8 (128+k)]) rfl rfl rfl (Nat.le_refl _) (fun _ _=>cZ) (src_os rfl (.inl rfl) (by decide)) rfl (hh_bytes (.cons (cI ((by rw [b8_mod];simp only [hlk];omega))) .nil)) Tryz.underlying22 nu22 sz5 zr5 by5 rfl (by (simp;omega)) (leaf_fl rfl rfl) rfl rfl (fun p2=>?_))
  refine jU 1651 ?_
  refine jqm (jmcH 0 (reverse8_ac _ (lowL n k++[b8 (128+k)]) (by simp [hlk];omega)) ?_)
  rintro _ _ ⟨rfl,rfl⟩
  refine ⟨_,_,rfl,cZ,?_⟩
  refine jU 51165 ?_;refine jE (freeze 0 rfl) ?_;refine jE (thawB 2 ((lowL n k++[b8 (128+k)]).reverse) rfl rfl (by simp) rfl) ?_
  refine jR (jrt (hv:=?_))
  refine CEnt.bs ?_
  rcases hk with rfl|rfl|⟨rfl,h2⟩
  ·simp at h43;omega
  ·simp at h43
   unfold lenL
   rw [if_neg (by omega),if_pos (by omega)]
   simp [lowL,List.range_succ]
   rfl
  ·unfold lenL
   rw [if_neg (by omega),if_neg (by omega),if_pos (by omega)]
   simp [lowL,List.range_succ]
   rfl
def elC (tag:Nat) (body:List UInt8):CV:=.agg 2 (fl [.c (.int .i64 tag),bsC body])
theorem measure_ac (b:List UInt8):ACp gs Tryz.prog 237 [bsC b] (.tup 3 (fl [.c (.int .i64 (measM b).n),bsC (measM b).rest,.err (measM b).e])):=by
 refine ac_of 67 Tryz.func237 rfl rfl rfl (fun al w0 F0 St0=>?_)
 refine jU 52316751116 ?_;refine jcc (fun h72=>?_) fun h72=>?_
 ·refine jcs ?_;refine jcd (.rd 0 (.rd 1 (.rd 2 (.rd 3 .done)))) ?_;refine jyq (jrde 1) ?_;refine jU 880707070 ?_
  refine jR (jtr (jrt (hv:=?_)))
  have:b.length=0:=by omega
  unfold measM
  rw [if_pos this]
  exact CEnt.tup3 cZ cN cZ
 refine jU 7810 ?_;refine jcd (.rd 0 (.rd 1 (.rd 2 (.rd 3 (.rd 4 (.rd 5 (.rd 6 (.rd 7 .done)))))))) ?_;refine jU 70 ?_;refine jyq (jri (i:=0)) ?_;refine jyq jrdr ?_;refine jyq (jrv8 .i64) ?_;refine jU 70 ?_;refine jyq (jrsf (hz1:=(show (1:Int)=((1:Nat):Int) from rfl))) ?_;refine jU 78807070 ?_
 obtain ⟨c,hc⟩:∃ c,c=(b.getD 0 0).toNat:=⟨_,rfl⟩
 obtain ⟨r,hr⟩:∃ r,r=b.drop 1:=⟨_,rfl⟩
 have c8:c<256:=by rw [hc];exact (b.getD 0 0).toNat_lt
 have hM:=measM_ne (by omega) hc hr
 refine jE (weaken 5 (.c (.int .i64 (c:Nat))) (cI (by rw [hc]))) ?_;refine jE (weaken 0 (bsC r) (CEnt.bs hr.symm)) ?_;refine jU 5216 ?_;refine jcc (fun h76=>?_) fun h76=>?_
 ·refine jU 5111116 ?_
  refine jR (jtr (jrt (hv:=?_)))
  rw [hM,if_pos (by omega)]
  exact CEnt.tup3 cZ cZ CEnt.nil
 refine jU 121620751916810 ?_;refine jqsp 29 (fun g81=>?_) fun g81=>?_
 ·refine jU 7900051800044 ?_;refine jcd (.rd 0 (.rd 1 (.rd 2 (.rd 3 .done)))) ?_;refine jU 8807070704000000 ?_
  refine jR (jbr (jtr (jrt (hv:=?_))))
  rw [hM,if_neg (by omega),if_pos (by omega)]
  exact CEnt.tup3 cZ cN cZ
 refine jU 5150021 ?_;refine jcc (fun h81=>?_) fun h81=>?_
 ·refine jcs ?_;refine jcd (.rd 0 (.rd 1 (.rd 2 (.rd 3 .done)))) ?_;refine jU 8807070704000000 ?_
  refine jR (jbr (jtr (jrt (hv:=?_))))
  rw [hM,if_neg (by omega),if_pos (by omega)]
  exact CEnt.tup3 cZ cN cZ
 refine jU 5121316 ?_;refine jcc (fun h83=>?_) fun h83=>?_
 ·refine jcs ?_;refine jcd (.rd 0 (.rd 1 (.rd 2 (.rd 3 .done)))) ?_;refine jyq (jrde 1) ?_;refine jU 880707070 ?_
  refine jR (jbr (jtr (jrt (hv:=?_))))
  rw [hM,if_neg (by omega),if_neg (by omega),if_pos (by omega)]
  exact CEnt.tup3 cZ cN cZ
 refine jU 840010 ?_
 obtain ⟨w,hw⟩:∃ w,w=c-128:=⟨_,rfl⟩
 have hwr:w≤r.length:=by omega
 refine jE (weaken 6 (.c (.int .i64 (w:Nat))) (cI (by omega))) ?_;refine jU 7516 ?_
 have htl:(r.take w).length=w:=by simp;omega
 refine jU 2051390000000116 ?_;refine l_loop (α:=Nat) [7,9,44,45,46,47,48,49,50,51,52,53] (fun i=>[(7,.c (.int .i64 (beN ((r.take w).take i):Nat))),(44,.c (.int .i64 (i:Nat)))]) (fun _=>[]) (fun i=>i≤w) (fun i=>w-i) (0) ?_ (fun _=>rfl) ?_ ?_ ?_
 ·exact Nat.zero_le _
 ·(repeat (first|exact EntE.nil|refine EntE.cons cZ ?_))
 ·(repeat (exact HEnt.nil))
 ·rintro i (hi:i≤w)
  have htl:(r.take w).length=w:=by simp;omega
  refine jU 7526 ?_;refine jcc (fun h87=>?_) fun h87=>?_
  ·refine jU 207810 ?_
   have htl:(r.take w).length=w:=by simp;omega
   refine jU 51607006 ?_
   have hbn:=beN_lt ((r.take w).take i)
   have hbl:((r.take w).take i).length=i:=by simp;omega
   have hb3:beN ((r.take w).take i)<16777216:=by
    rw [hbl] at hbn
    have:i≤3:=by omega
    have:=Nat.pow_le_pow_right (n:=256) (by decide) this
    omega
   have hc8:=((r.take w).getD i 0).toNat_lt
   refine jU 1200 ?_;refine jq (rd_shl rfl rfl rfl (by (omega)) (((beN ((r.take w).take i) * 256:Nat):Int)) ((by show IntKind.i64.wrap (((beN ((r.take w).take i):Nat):Int) * 2 ^ 8)=_;rw [IntWalk.i64_in _ (by omega)];omega))) ?_;refine jU 8400519700000001 ?_
   have htl:(r.take w).length=w:=by simp;omega
   refine jU 8519200 ?_
   refine jlend (i+1) ?_ ?_ (h5:=?_)
   ·show i+1≤w;omega
   ·omega
   ·exact .cons (cI (by rw [beN_take (by omega)];omega)) (.cons cZ .nil)
  refine jU 784000200020006000 ?_
  have hiw:i=w:=by omega
  have htt:(r.take w).take i=r.take (c-128):=by rw [hiw,hw,List.take_take,Nat.min_self]
  refine jE (weaken 7 (.c (.int .i64 (beN (r.take (c-128)):Nat))) (cI (by rw [htt]))) ?_;refine jU 1216 ?_;refine jqsp 56 (fun g90=>?_) fun g90=>?_
  ·refine jU 79000580004444 ?_;refine jcd (.rd 0 (.rd 1 (.rd 2 (.rd 3 .done)))) ?_;refine jU 8807070704000000 ?_
   refine jR (jtr (jrt (hv:=?_)))
   rw [hM,if_neg (by omega),if_neg (by omega),if_neg (by omega),if_pos (by omega)]
   exact CEnt.tup3 cZ cN cZ
  refine jU 550026020000001 ?_;refine jcc (fun h90=>?_) fun h90=>?_
  ·refine jcs ?_;refine jcd (.rd 0 (.rd 1 (.rd 2 (.rd 3 .done)))) ?_;refine jU 8807070704000000 ?_
   refine jR (jtr (jrt (hv:=?_)))
   rw [hM,if_neg (by omega),if_neg (by omega),if_neg (by omega),if_pos (by omega)]
   exact CEnt.tup3 cZ cN cZ
  refine jU 7810 ?_;refine jcd (.rd 0 (.rd 1 (.rd 2 (.rd 3 (.rd 4 (.rd 5 (.rd 6 .done))))))) ?_;refine jU 707070 ?_;refine jyq jrsf ?_;refine jU 880707070 ?_
  refine jR (jrt (hv:=?_))
  rw [hM,if_neg (by omega),if_neg (by omega),if_neg (by omega),if_neg (by omega)]
  refine CEnt.tup3 cZ (CEnt.bs ?_) CEnt.nil
  rw [hw]
end
section
variable {gs:List Nat} [Ok9 gs]

theorem next_ac (b:List UInt8) (hb:b.length≤10000000):ACp gs Tryz.prog 197 [bsC b] (.tup 3 (fl [elC (nextM b).tag (nextM b).body,bsC (nextM b).rest,.err (nextM b).e])):=by
 have hml:=measM_rest (b.drop 1)
 refine ac_of 56 Tryz.func197 rfl rfl rfl (fun al w0 F0 St0=>?_)
 refine jcr ?_
 refine jqe (jeal (n:=2) zr199 rfl fun p1=>?_)
 refine jU 523167511 ?_;refine jcc (fun h98=>?_) fun h98=>?_
 ·refine jcs ?_;refine jcdZ (.rd 0 (.rd 1 (.one 2 (.rd 3 (.rd 4 .done))))) ?_;refine jzq (rd_build (n:=2) rfl zr199 pl199 rfl rfl) ?_;refine jzq (jrde 1) ?_
  refine jzm (jmst 2 ?_)
  refine jU 8700000400000400000 ?_
  refine jR (jtr (jrt (hres:=res_3 rfl (javA 2) javt javt) (hv:=?_)))
  have:b.length=0:=by omega
  unfold nextM
  rw [if_pos this]
  exact CEnt.tup3 (CEnt.agg2 cZ cN) cN cZ
 refine jU 7517000000060200000016810 ?_
 obtain ⟨t,ht⟩:∃ t,t=(b.getD 0 0).toNat:=⟨_,rfl⟩
 refine jE (weaken 5 (.c (.int .i64 (t:Nat))) (cI (by rw [ht]))) ?_;refine jU 16 ?_
 refine jqe (jecP (known_ac _) ?_)
 refine jU 530 ?_;refine jcc (fun h102=>?_) fun h102=>?_
 ·refine jcs ?_;refine jcdZ (.rd 0 (.rd 1 (.one 2 (.rd 3 (.rd 4 .done))))) ?_;refine jzq (rd_build (n:=2) rfl zr199 pl199 rfl rfl) ?_;refine jzq (jrde 4) ?_
  refine jzm (jmst 2 ?_)
  refine jU 8700000400000400000 ?_
  refine jR (jtr (jrt (hres:=res_3 rfl (javA 2) javt javt) (hv:=?_)))
  have hk:knownM (t:Nat)=false:=by simpa using h102
  unfold nextM
  rw [if_neg (by omega),if_pos (by rw [← ht];exact hk)]
  exact CEnt.tup3 (CEnt.agg2 cZ cN) cN cZ
 refine jU 810 ?_
 have hk:knownM (t:Nat)=true:=by simpa using h102
 have hN:=nextM_ne (by omega) ht hk rfl
 refine jU 16 ?_;refine jq (jrsf (hz1:=(show (1:Int)=((1:Nat):Int) from rfl))) ?_
 refine jqe (jecP (measure_ac _) ?_)
 refine jU 515000001620751119009009001 ?_;refine jcc (fun h107=>?_) fun h107=>?_
 ·refine jcr ?_;refine jq (rd_build (n:=2) rfl zr199 pl199 rfl rfl) ?_;refine jU 1 ?_
  refine jqm (jmst 2 ?_)
  refine jU 511 ?_
  refine jR (jbr (jtr (jrt (hres:=res_3 rfl (javA 2) javt javt) (hv:=?_))))
  rw [hN,if_pos (by omega)]
  exact CEnt.tup3 (CEnt.agg2 cZ cN) cN cZ
 refine jU 51216 ?_;refine jcc (fun h109=>?_) fun h109=>?_
 ·refine jcs ?_;refine jcdZ (.rd 0 (.rd 1 (.one 2 (.rd 3 (.rd 4 .done))))) ?_;refine jzq (rd_build (n:=2) rfl zr199 pl199 rfl rfl) ?_;refine jzq (jrde 2) ?_
  refine jzm (jmst 2 ?_)
  refine jU 8700000400000400000 ?_
  refine jR (jbr (jtr (jrt (hres:=res_3 rfl (javA 2) javt javt) (hv:=?_))))
  rw [hN,if_neg (by omega),if_pos (by omega)]
  exact CEnt.tup3 (CEnt.agg2 cZ cN) cN cZ
 refine jU 5123116 ?_;refine jcc (fun h111=>?_) fun h111=>?_
 ·refine jcs ?_;refine jcdZ (.rd 0 (.rd 1 (.one 2 (.rd 3 (.rd 4 .done))))) ?_;refine jzq (rd_build (n:=2) rfl zr199 pl199 rfl rfl) ?_;refine jzq (jrde 1) ?_
  refine jzm (jmst 2 ?_)
  refine jU 8700000400000400000 ?_
  refine jR (jbr (jtr (jrt (hres:=res_3 rfl (javA 2) javt javt) (hv:=?_))))
  rw [hN,if_neg (by omega),if_neg (by omega),if_pos (by omega)]
  exact CEnt.tup3 (CEnt.agg2 cZ cN) cN cZ
 refine jU 7840010 ?_;refine jcdB 10 (.rd 0 (.rd 1 (.rd 2 (.rd 3 (.rd 6 (.rd 7 (.rd 8 (.one 4 (.rd 5 (.one 9 .done)))))))))) ?_;refine jU 707070 ?_;refine jyq jrst ?_;refine jU 7070 ?_;refine jyq jrsf ?_
 refine jye (jecP (clone8_ac ((measM (b.drop 1)).rest.take (measM (b.drop 1)).n) (by rw [List.length_take];have:=hml.1;rw [List.length_drop] at this;omega)) ?_)
 refine jyq (rd_build (n:=2) rfl zr199 pl199 rfl rfl) ?_
 refine jye (jecP (clone8_ac ((measM (b.drop 1)).rest.drop (measM (b.drop 1)).n) (by rw [List.length_drop];have:=hml.1;rw [List.length_drop] at this;omega)) ?_)
 refine jyd ?_
 show ASeq _ _ _ _ _ _
 refine jqm (jmst 2 ?_)
 refine jU 8511 ?_
 refine jR (jrt (hres:=res_3 rfl (javA 2) javt javt) (hv:=?_))
 rw [hN,if_neg (by omega),if_neg (by omega),if_neg (by omega)]
 exact CEnt.tup3 (CEnt.agg2 cZ cZ) cZ CEnt.nil

theorem loopW_nil (rec:Nat→List UInt8→Nat×Nat) (set:Bool) (lv fuel:Nat) (last:List UInt8) (dp:Nat):loopW rec set lv fuel [] last dp=(dp,0):=by
 cases fuel <;> simp [loopW]
theorem loopW_step (rec:Nat→List UInt8→Nat×Nat) (set:Bool) (lv fuel:Nat) (b last:List UInt8) (dp:Nat) (hb:0<b.length) (hf:b.length≤fuel):loopW rec set lv fuel b last dp =
  if (nextM b).e≠0 then (0,(nextM b).e) else
  if lv≤1 then (0,6) else
  if (rec (nextM b).tag (nextM b).body).2≠0 then (0,(rec (nextM b).tag (nextM b).body).2) else
  if set=true∧Op.bytesLess (b.take (b.length-(nextM b).rest.length)) last=true then (0,7) else
  loopW rec set lv (fuel-1) (nextM b).rest (b.take (b.length-(nextM b).rest.length)) (max dp ((rec (nextM b).tag (nextM b).body).1+1)):=by
 obtain ⟨m,rfl⟩:∃ m,fuel=m+1:=⟨fuel-1,by omega⟩
 rw [loopW,if_neg (by omega)]
 rfl
structure WS where
 f:Nat
 b:List UInt8
 last:List UInt8
 dp:Nat
theorem whole_ac:∀ (lv tag:Nat) (body:List UInt8),lv<16→body.length≤1000000→ACp gs Tryz.prog 198 [elC tag body,.c (.int .i64 ((lv+1:Nat):Int))] (.tup 2 (fl [.c (.int .i64 (wholeM (lv+1) tag body).1),.err (wholeM (lv+1) tag body).2])):=by
 intro lv
 induction lv using Nat.strongRecOn with
 | _ lv ih =>
 intro tag body hlv hbody
 have ih':1≤lv→∀ (tag:Nat) (body:List UInt8),body.length≤1000000→ACp gs Tryz.prog 198 [elC tag body,.c (.int .i64 (lv:Nat))] (.tup 2 (fl [.c (.int .i64 (wholeM lv tag body).1),.err (wholeM lv tag body).2])):=fun h tag body hb=>by
  have:=ih (lv-1) (by omega) tag body (by omega) hb
  rwa [show lv-1+1=lv by omega] at this
 have hR:∀ t b,(wholeM lv t b).1≤lv+1∧(wholeM lv t b).2≤7:=fun t b=>wholeM_bd lv t b
 refine ac_of 70 Tryz.func198 rfl rfl rfl (fun al w0 F0 St0=>?_)
 refine jcr ?_
 refine jqe (jebx 2 fun p1=>?_)
 refine jU 509067516511 ?_
 refine jqe (jecP (made_ac _) ?_)
 refine jU 530 ?_;refine jcc (fun h134=>?_) fun h134=>?_
 ·refine jU 51116 ?_
  refine jR (jtr (jrt (hv:=?_)))
  have hmd:madeM (tag:Nat)=false:=decide_eq_false h134
  rw [wholeM,if_pos hmd]
  exact cT cZ CEnt.nil
 refine jU 810 ?_
 have hmd:madeM (tag:Nat)=true:=decide_eq_true (Decidable.not_not.1 h134)
 have hw0:wholeM (lv+1) tag body=loopW (wholeM lv) (decide (tag=49)) (lv+1) body.length body [] 1:=by
  rw [wholeM,if_neg (by rw [hmd];exact Bool.noConfusion)]
 refine jU 20515010067516 ?_;refine l_loop (α:=WS×Option Nat) [4,5,6,7,8,9,10,11,12,13,21,22,23,24,25,26,27,28,29,30,31,32,33,34,35,36,37,38,39,40,41,42,43,44,45,46,47,48,49,50,51,52,53,54,55,56,57,58,59,60,61,62,63,64,65,66,67,68] (fun (x,g)=>[(6,.c (.int .i64 (x.dp:Nat))),(7,bsC x.last),(8,bsC x.b)]) (fun (x,g)=>[(p1,.blk 2 (fl [.c (.int .i64 tag),bsC body]))]) (fun x=>x.1.b.length≤x.1.f∧x.1.b.length≤1000000∧x.1.dp≤lv+2∧loopW (wholeM lv) (decide (tag=49)) (lv+1) x.1.f x.1.b x.1.last x.1.dp=wholeM (lv+1) tag body) (fun x=>x.1.f) ((⟨body.length,body,[],1⟩,none)) ?_ (fun _=>rfl) ?_ ?_ ?_
 ·exact ⟨Nat.le_refl _,hbody,by show 1≤lv+2;omega,hw0.symm⟩
 ·exact .cons cZ (.cons cN (.cons cZ .nil))
 ·exact .same .nil
 ·rintro ⟨x,g'⟩ ⟨hxf,hxb',hdp,hw⟩
  dsimp only at hxf hxb' hdp hw
  have hxb:x.b.length≤10000000:=by omega
  have hnb:=nextM_bd x.b
  refine jU 523167 ?_;refine jcc (fun h138=>?_) fun h138=>?_
  rotate_left
  ·refine jU 5111684000200020006000 ?_
   refine jR (jrt (hv:=?_))
   have hnil:x.b=[]:=List.eq_nil_of_length_eq_zero (by omega)
   rw [← hw,hnil,loopW_nil]
   exact cT cZ CEnt.nil
  refine jU 1620810 ?_
  refine jqe (jecP (next_ac x.b hxb) ?_)
  refine jU 9009009001 ?_
  refine jqe (jeal (n:=2) zr199 rfl fun p2=>?_)
  refine jqm (jmst 2 ?_)
  refine jU 5500000167511 ?_;refine jcc (fun h140=>?_) fun h140=>?_
  ·refine jU 51116 ?_
   refine jR (jtr (jbr (jtr (jbr (jtr (jrt (hv:=?_)))))))
   rw [← hw,loopW_step _ _ _ _ _ _ _ (by omega) hxf,if_pos h140]
   exact cZ
  refine jU 52167810 ?_;refine jcc (fun h143=>?_) fun h143=>?_
  ·refine jcs ?_;refine jcd (.rd 0 (.rd 1 (.rd 2 .done))) ?_;refine jyq (jrde 5) ?_;refine jU 8807070 ?_
   refine jR (jtr (jbr (jtr (jbr (jtr (jrt (hv:=?_)))))))
   rw [← hw,loopW_step _ _ _ _ _ _ _ (by omega) hxf,if_neg h140,if_pos (by omega)]
   exact cZ
  refine jU 6810 ?_;refine jqo (jrdoA 2) ?_;refine jU 91 ?_
  refine jqe (jecP (ih' (by omega) (nextM x.b).tag (nextM x.b).body (by omega)) ?_ (ho:=rfl) (he:=(.cons (se rfl (CEnt.agg2 cZ cZ)) (.cons (se rfl (cI (by omega))) .nil))))
  refine jU 75119009001 ?_
  have hRx:=hR (nextM x.b).tag (nextM x.b).body
  refine jU 550000016 ?_;refine jcc (fun h147=>?_) fun h147=>?_
  ·refine jU 51116 ?_
   refine jR (jtr (jbr (jtr (jbr (jtr (jrt (hv:=?_)))))))
   rw [← hw,loopW_step _ _ _ _ _ _ _ (by omega) hxf,if_neg h140,if_neg (by omega),if_pos h147]
   exact cZ
  refine jU 9313116810 ?_;refine jq (jrst (hz2:=(show _=(((x.b.length-(nextM x.b).rest.length):Nat):Int) by omega))) ?_;refine jU 1250906751 ?_;refine jqsp 56 (fun g151=>?_) fun g151=>?_
  rotate_left
  ·refine jU 911681030055004444 ?_;refine jq (rd_max2 rfl rfl rfl) ?_;refine jU 84005111120051 ?_
   refine jlend ((⟨x.f-1,(nextM x.b).rest,x.b.take (x.b.length-(nextM x.b).rest.length),max x.dp ((wholeM lv (nextM x.b).tag (nextM x.b).body).1+1)⟩,none)) ?_ ?_ (h5:=?_) (h7:=?_)
   ·exact ⟨by dsimp only;omega,by dsimp only;omega,by dsimp only;omega,by
     dsimp only
     rw [← hw,loopW_step _ _ _ _ _ _ _ (by omega) hxf,if_neg h140,if_neg (by omega),if_neg h147,if_neg (by
      rintro ⟨h1,h2⟩
      have h1:=of_decide_eq_true h1
      rw [← cmpL_lt] at h2
      have h2:=of_decide_eq_true h2
      omega)]⟩
   ·dsimp only
    omega
   ·exact .cons (cI (by dsimp only;omega)) (.cons cZ (.cons cZ .nil))
   ·exact .same .nil
  refine jU 11 ?_
  refine jqe (jecP (compare8_ac (x.b.take (x.b.length-(nextM x.b).rest.length)) x.last) ?_)
  refine jU 580002 ?_;refine jcc (fun h151=>?_) fun h151=>?_
  ·refine jcs ?_;refine jcd (.rd 0 (.rd 1 (.rd 2 .done))) ?_;refine jyq (jrde 6) ?_;refine jU 8807070 ?_
   refine jR (jtr (jbr (jtr (jbr (jtr (jrt (hv:=?_)))))))
   rw [← hw,loopW_step _ _ _ _ _ _ _ (by omega) hxf,if_neg h140,if_neg (by omega),if_neg h147,if_pos ⟨decide_eq_true (by omega),by rw [← cmpL_lt];exact decide_eq_true (by omega)⟩]
   exact cZ
  refine jU 9116810 ?_;refine jq (rd_max2 rfl rfl rfl) ?_;refine jU 84005111120051 ?_
  refine jlend ((⟨x.f-1,(nextM x.b).rest,x.b.take (x.b.length-(nextM x.b).rest.length),max x.dp ((wholeM lv (nextM x.b).tag (nextM x.b).body).1+1)⟩,none)) ?_ ?_ (h5:=?_) (h7:=?_)
  ·exact ⟨by dsimp only;omega,by dsimp only;omega,by dsimp only;omega,by
    dsimp only
    rw [← hw,loopW_step _ _ _ _ _ _ _ (by omega) hxf,if_neg h140,if_neg (by omega),if_neg h147,if_neg (by
     rintro ⟨h1,h2⟩
     have h1:=of_decide_eq_true h1
     rw [← cmpL_lt] at h2
     have h2:=of_decide_eq_true h2
     omega)]⟩
  ·dsimp only
   omega
  ·exact .cons (cI (by dsimp only;omega)) (.cons cZ (.cons cZ .nil))
  ·exact .same .nil
end
section
variable {gs:List Nat} [Ok9 gs]

theorem depth_ac (b:List UInt8) (hb:b.length≤10000000):ACp gs Tryz.prog 125 [bsC b] (.tup 2 (fl [.c (.int .i64 (depthM b).1),.err (depthM b).2])):=by
 have hnb:=nextM_bd b
 refine ac_of 30 Tryz.func125 rfl rfl rfl (fun al w0 F0 St0=>?_)
 refine jU 5231675116 ?_;refine jcc (fun h162=>?_) fun h162=>?_
 ·refine jcs ?_;refine jcd (.rd 0 (.rd 1 (.rd 2 .done))) ?_;refine jyq (jrde 2) ?_;refine jU 8807070 ?_
  refine jR (jtr (jrt (hv:=?_)))
  unfold depthM
  rw [if_pos (by omega)]
  exact cZ
 refine jU 16810 ?_
 refine jqe (jecP (next_ac b hb) ?_)
 refine jU 9009009001 ?_
 refine jqe (jeal (n:=2) zr199 rfl fun p1=>?_)
 refine jqm (jmst 2 ?_)
 refine jU 5150000016207511 ?_;refine jcc (fun h167=>?_) fun h167=>?_
 ·refine jU 51116 ?_
  refine jR (jbr (jtr (jrt (hv:=?_))))
  unfold depthM
  rw [if_neg (by omega),if_pos (by omega)]
  exact cZ
 refine jU 512316 ?_;refine jcc (fun h169=>?_) fun h169=>?_
 ·refine jcs ?_;refine jcd (.rd 0 (.rd 1 (.rd 2 .done))) ?_;refine jU 88070704000000 ?_
  refine jR (jbr (jtr (jrt (hv:=?_))))
  unfold depthM
  rw [if_neg (by omega),if_neg (by omega),if_pos (by omega)]
  exact cZ
 refine jU 6840010 ?_;refine jqo (jrdoA 2) ?_
 refine jqe (jecP (whole_ac 15 (nextM b).tag (nextM b).body (by omega) (by omega)) ?_ (ho:=rfl) (he:=(.cons (se rfl (CEnt.agg2 cZ cZ)) (.cons (se rfl cZ) .nil))))
 refine jU 511900900 ?_
 refine jR (jrt (hv:=?_))
 unfold depthM
 rw [if_neg (by omega),if_neg (by omega),if_neg (by omega)]
 exact cZ
theorem check_ac (b:List UInt8) (hb:b.length≤10000000):ACp gs Tryz.prog 53 [bsC b] (.err (depthM b).2):=by
 refine ac_of 11 Tryz.func53 rfl rfl rfl (fun al w0 F0 St0=>?_)
 refine jU 16516 ?_
 refine jqe (jecP (depth_ac b hb) ?_)
 refine jU 51165119009001 ?_
 refine jR jrt
def ex3a:List UInt8:=[48,3,2,1,5]
def ex3b:List UInt8:=[48,129,3,2,1,5]
theorem rput_ac {gs:List Nat} (tag:Int) (body:List UInt8) (ht:0≤tag∧tag<256) (hb:body.length≤10000000):ACp gs Tryz.prog 62 [.c (.int .i64 tag),bsC body] (bsC (putL tag body)):=by
 have hl:=lenL_bd body.length
 refine ac_of 14 Tryz.func62 rfl rfl rfl (fun al w0 F0 St0=>?_)
 refine jU 80000016516 ?_
 refine jqe (jebl 1 1 zr5 fun p1=>?_)
 refine jU 31 ?_
 refine jqe (jecP (rlen_ac body.length (by omega)) ?_)
 refine seq_ent (blk_ent 0 rfl (Nat.le_refl _) (fun _=>rfl) (fl_by (l2:=[b8 tag.toNat]) (.cons (cI ((by rw [b8_mod];omega))) .nil))) ?_
 refine jqm (m_appendB (l:=[b8 tag.toNat]) rfl rfl rfl (Nat.le_refl _) (fun _ _=>cZ) (src_rs rfl) rfl (fun j hj=>by simp only [Nat.div_one];exact cZ) Tryz.underlying22 nu22 sz5 zr5 by5 rfl (by (simp;omega)) (fun j hj=>rfl) rfl rfl (fun p2=>?_))
 refine jU 1 ?_
 refine jqm (m_appendB rfl rfl rfl (Nat.le_refl _) (fun _ _=>cZ) (src_rs rfl) rfl (fun j hj=>by simp only [Nat.div_one];exact cZ) Tryz.underlying22 nu22 sz5 zr5 by5 rfl (by (simp;omega)) (fun j hj=>rfl) rfl rfl (fun p3=>?_))
 refine jU 51 ?_;refine jE (freeze 0 rfl) ?_;refine jE (thawB 4 ([b8 tag.toNat]++lenL body.length++body) rfl rfl (by rfl) rfl) ?_
 refine jR (jrt (hv:=CEnt.bs (by simp [putL,b8])))
end
section
variable {gs:List Nat} [Ok9 gs]

theorem grow8_ac {gs:List Nat} (n:Nat) (hn:n≤100000000000):AC gs Tryz.prog 242 [] [.c (.slice none 0 0),.c (.int .i64 (n:Nat))] (OwnQ 0 1 0 fun _=>.top):=by
 refine ac_of 27 Tryz.func242 rfl rfl rfl (fun al w0 F0 St0=>?_)
 refine jU 52167516 ?_;refine jcc (fun h423=>?_) fun h423=>?_
 ·exfalso;omega
 refine jU 1167810 ?_;refine jq (rd_capN rfl rfl Tryz.underlying22) ?_;refine jU 5216519931 ?_;refine jcc (fun h426=>?_) fun h426=>?_
 rotate_left
 ·refine jU 810 ?_;refine jE (own_nil 0 1 (fun _=>.top) rfl) ?_;refine jU 70005116 ?_
  exact end_O 0 (.inl rfl) (res_1 rfl (arv_tmp rfl)) rfl rfl (Nat.le_refl _) (fun _=>rfl) (fun j hj=>absurd hj (Nat.not_lt_zero j))
 refine jU 11200 ?_;refine jq (rd_capN rfl rfl Tryz.underlying22) ?_;refine jq (rd_sliceN rfl rfl Tryz.underlying22 sz5 (bd_none _ _) (bd_some rfl (show _=((0:Nat):Int) by omega)) (by (omega)) (by (omega))) ?_;refine jU 1 ?_
 refine jqe (e_appZ (F:=fun _=>.top) rfl rfl rfl (show _=((n:Nat):Int) by omega) (by (omega)) Tryz.underlying22 Tryz.underlying3 sz5 (by decide) zr5 by5 (by (omega)) (by (omega)) rfl rfl rfl (fun p1=>?_))
 refine jU 31 ?_;refine jq (jrso (hl:=(bd_none _ _)) (hu:=(bd_some rfl (show _=((0:Nat):Int) by omega)))) ?_;refine jU 851 ?_
 skip
 refine jU 70005116 ?_
 exact end_O 0 (.inl rfl) (res_1 rfl (arv_tmp rfl)) rfl rfl (Nat.le_refl _) (fun _=>rfl) (fun j hj=>absurd hj (Nat.not_lt_zero j))
theorem concat8_ac {gs:List Nat} (ls:List (List UInt8)) (h:sumL ls≤10000000000) (hl:ls.length≤1000000):ACp gs Tryz.prog 201 [lbC ls] (bsC ls.flatten):=by
 refine ac_of 36 Tryz.func201 rfl rfl rfl (fun al w0 F0 St0=>?_)
 refine jU 20513167516516 ?_;refine l_loop (α:=Nat) [3,5,11,12,13,14,15,16,17,18,19,20,21,22] (fun i=>[(3,.c (.int .i64 (sumL (ls.take i):Nat))),(11,.c (.int .i64 (i:Nat)))]) (fun _=>[]) (fun i=>i≤ls.length) (fun i=>ls.length-i) (0) ?_ (fun _=>rfl) ?_ ?_ ?_
 ·exact Nat.zero_le _
 ·exact .cons cZ (.cons cZ .nil)
 ·(repeat (exact HEnt.nil))
 ·rintro i (hi:i≤ls.length)
  refine jU 7526 ?_;refine jcc (fun h493=>?_) fun h493=>?_
  ·refine jU 51607006207810 ?_
   have hs1:=sumL_take (ls:=ls) (i:=i) (by omega)
   have hs2:=sumL_le ls (i+1)
   refine jU 52165193116 ?_;refine jcc (fun h495=>?_) fun h495=>?_
   ·exfalso;omega
   refine jU 8519200840010 ?_
   refine jlend (i+1) ?_ ?_ (h5:=?_)
   ·show i+1≤ls.length;omega
   ·omega
   ·exact .cons (cI (by rw [sumL_take (by omega)];omega)) (.cons (cI (by omega)) .nil)
  refine jU 84000200020006000 ?_
  have hs3:=sumL_le ls i
  refine jU 16 ?_
  refine jqe (jecO (grow8_ac (sumL (ls.take i)) (by omega)) (fun p1=>?_))
  refine jU 2051316751 ?_;refine l_loop (α:=Nat×Option Nat) [6,8,27,28,29,30,31,32,33,34] (fun (j,g)=>[(6,.os 0 g 0 ((ls.take j).flatten).length 1),(27,.c (.int .i64 (j:Nat)))]) (fun (j,g)=>[(g,.blk ((ls.take j).flatten).length (byF (ls.take j).flatten))]) (fun j=>j.1≤ls.length) (fun j=>ls.length-j.1) ((0,p1)) ?_ (fun _=>rfl) ?_ ?_ ?_
  ·exact Nat.zero_le _
  ·exact .cons cZ (.cons cZ .nil)
  ·exact .blk rfl (fun j hj=>absurd hj (Nat.not_lt_zero j)) .nil
  ·rintro ⟨j,g'⟩ (hj:j≤ls.length)
   refine jU 7526 ?_;refine jcc (fun h503=>?_) fun h503=>?_
   rotate_left
   ·refine jU 511684000200020006000 ?_;refine jE (freeze 0 rfl) ?_;refine jE (thawB 2 ((ls.take j).flatten) rfl rfl (by rfl) rfl) ?_
    refine jR (jrt (hv:=?_))
    refine CEnt.bs ?_
    rw [List.take_of_length_le (by omega)]
   refine jU 51607006207810 ?_
   have hf1:=sumL_take (ls:=ls) (i:=j) (by omega)
   have hf2:=sumL_le ls (j+1)
   have hf3:=flat_len (ls.take j)
   refine jU 11200 ?_
   refine jqm (m_appendB rfl rfl rfl (Nat.le_refl _) (fun _ _=>cZ) (src_rs rfl) rfl (fun j hj=>by simp only [Nat.div_one];exact cZ) Tryz.underlying22 nu22 sz5 zr5 by5 rfl (by omega) (fun j hj=>rfl) rfl rfl (fun p2=>?_))
   refine jU 8519200840051 ?_
   refine jlend ((j+1,p2)) ?_ ?_ (h5:=?_) (h7:=?_)
   ·show j+1≤ls.length;omega
   ·show ls.length-(j+1)<ls.length-j;omega
   ·simp only [flat_take (show j<ls.length by omega)]
    exact .cons cZ (.cons (cI (by omega)) .nil)
   ·simp only [flat_take (show j<ls.length by omega)]
    exact .same .nil
end
end Am
end Go.Proofs.YthlpfjnkieaeeaaGreatDoor
namespace Go.Proofs.YthlpfjnkieaeeaaGreatDoor
set_option linter.unusedVariables false
open Go.RowKit

def marks:List UInt8:=[201,202,203,204,205,206]
def Marked (w:World) (v:Value) (l:List UInt8):Prop :=
 ∃ g,v=.slice (some ⟨g,0,none⟩) l.length (l.length+6)∧l.length+6≤9223372036854775807∧∀ i,i<l.length+6→w.cell? ⟨g,i,none⟩=some (.int .u8 ((l++marks).getD i 0).toNat)
def MarkedAt (w:World) (g:Nat) (v:Value) (l:List UInt8):Prop :=
 v=.slice (some ⟨g,0,none⟩) l.length (l.length+6)∧l.length+6≤9223372036854775807∧∀ i,i<l.length+6→w.cell? ⟨g,i,none⟩=some (.int .u8 ((l++marks).getD i 0).toNat)
theorem Marked.below {a b:World} {v:Value} {l:List UInt8} (h:Marked a v l) (k:Below a.heap.size a b):Marked b v l:=by
 obtain ⟨g,rfl,h1,h2⟩:=h
 exact ⟨g,rfl,h1,fun i hi=>below_cell k (h2 i hi)⟩
theorem Marked.bs {w:World} {v:Value} {l:List UInt8} (h:Marked w v l):Bs w v l:=by
 obtain ⟨g,rfl,h1,h2⟩:=h
 refine Bs.of_cells (by omega) (by omega) fun i hi=>?_
 rw [Nat.zero_add,h2 i (by omega)]
 simp [List.getD,List.getElem?_append_left hi]

theorem Bs.parts {w:World} {v:Value} {l:List UInt8} (h:Bs w v l) :
  ∃ ao cap,v=.slice ao l.length cap∧l.length≤cap∧cap≤9223372036854775807∧(ao=none→l.length=0∧cap=0) ∧
   ∀ ad,ao=some ad→∀ j u,(l.map fun c=>Value.int .u8 c.toNat)[j]?=some u→w.cell? (ad.add j)=some u:=by
 obtain ⟨ao,cap,rfl,h1,h2,h3,h4⟩:=h
 refine ⟨ao,cap,rfl,h1,h2,fun h=>⟨by have:=h3 h;omega,h3 h⟩,?_⟩
 intro ad had j u hu
 obtain ⟨hs,hc⟩:=h4 ad had
 obtain ⟨b,o,sp⟩:=ad
 have hj:j<l.length:=by
  have:=(List.getElem?_eq_some_iff.1 hu).1
  simpa using this
 have hs:=hs (by omega)
 simp only at hs
 subst hs
 rw [Addr.add_lit,hc j hj]
 rw [List.getElem?_map,List.getElem?_eq_getElem hj] at hu
 simpa [List.getD,hj] using hu

end Go.Proofs.YthlpfjnkieaeeaaGreatDoor
namespace Go.Proofs.YthlpfjnkieaeeaaGreatDoor
set_option linter.unusedVariables false
namespace Am
open Go.RowKit
section
variable {gs:List Nat} [Ok9 gs]
def markSV (l:List UInt8):SV where
 p St w v:=∃ g,St g∧MarkedAt w g v l
 st:=fun {St St' w w' v} hs hb ⟨g,h1,h2,h3,h4⟩=>⟨g,hs g h1,h2,h3,fun i hi=>cell_keep (fun cur t z hc=>hb g cur t z h1 hc) (h4 i hi)⟩
 one:=fun {St w v} ⟨g,h1,h2,h3,h4⟩=>by rw [h2];exact ⟨rfl,rfl⟩
def markC (l:List UInt8):CV:=.pv (markSV l)
theorem CEnt.mark {l:List UInt8}:CEnt (markC l) (bsC l):=fun al St w v ⟨g,h1,h2,h3,h4⟩=>by
 refine ⟨_,_,h2,by omega,h3,(fun h=>by cases h),fun a ha hn=>?_⟩
 cases ha
 refine ⟨rfl,h1,fun i j hi hj=>⟨_,by rw [show 0+(i * 1+j)=i by omega];exact h4 i (by omega),?_⟩⟩
 show _=_
 simp [List.getD,List.getElem?_append_left hi]
end
section
variable {gs:List Nat} [Ok9 gs]

def putE (tag:Int) (body:List UInt8):Nat:=if knownM tag=false then 5 else if 65530<body.length then 3 else 0
theorem known_bd {t:Int} (h:knownM t=true):0≤t∧t<256:=by
 unfold knownM madeM at h
 simp at h
 omega
theorem tput_ac (tag:Int) (body:List UInt8) (hb:body.length≤1000000):ACp gs Tryz.prog 199 [.agg 2 (fl [.c (.int .i64 tag),bsC body])] (.tup 2 (fl [bsC (if putE tag body=0 then putL tag body else []),.err (putE tag body)])):=by
 refine ac_of 28 Tryz.func199 rfl rfl rfl (fun al w0 F0 St0=>?_)
 refine jcr ?_
 refine jqe (jebx 2 fun p1=>?_)
 refine jU 50906207511 ?_
 refine jqe (jecP (known_ac _) ?_)
 refine jU 5130 ?_;refine jcc (fun h62=>?_) fun h62=>?_
 ·refine jcs ?_;refine jcd (.rd 0 (.rd 1 (.rd 2 .done))) ?_;refine jyq (jrde 4) ?_;refine jU 8807070 ?_
  refine jR (jbr (jtr (jrt (hv:=?_))))
  have hk:knownM tag=false:=by simpa using h62
  have he:putE tag body=5:=by unfold putE;rw [if_pos hk]
  rw [he];exact cT cN cZ
 refine jU 5123501006 ?_;refine jcc (fun h64=>?_) fun h64=>?_
 ·refine jcs ?_;refine jcd (.rd 0 (.rd 1 (.rd 2 .done))) ?_;refine jyq (jrde 2) ?_;refine jU 8807070 ?_
  refine jR (jbr (jtr (jrt (hv:=?_))))
  have hk:knownM tag=true:=by simpa using h62
  have he:putE tag body=3:=by unfold putE;rw [if_neg (by rw [hk];exact Bool.noConfusion),if_pos (by omega)]
  rw [he];exact cT cN cZ
 refine jU 7840010 ?_
 have hk:knownM tag=true:=by simpa using h62
 have hkb:=known_bd hk
 have he:putE tag body=0:=by unfold putE;rw [if_neg (by rw [hk];exact Bool.noConfusion),if_neg (by omega)]
 have hlb:=lenL_bd body.length
 refine jcd (.rd 0 (.rd 1 (.rd 2 (.rd 4 (.rd 5 (.rd 6 (.rd 8 (.rd 9 (.two 3 (.one 7 (.one 10 (.one 11 (.rd 12 (.rd 13 .done))))) 7 (.one 3 (.one 10 (.one 11 (.rd 12 (.rd 13 .done)))))))))))))) ?_;refine jU 10000900000 ?_;refine jyq (jrv .i64 .u8) ?_;refine jU 10000800000020000100008000000 ?_;refine jytwo ?_ ?_
 ·refine jye (jebl 1 1 zr5 fun p2=>?_)
  refine jye (jecP (length_ac body.length (by omega)) ?_)
  refine x_ent (freeze 1 rfl) ?_;refine x_ent (thawBL 19 [UInt8.ofNat tag.toNat] rfl rfl rfl rfl (.cons (cI (by rw [UInt8.toNat_ofNat'];omega)) .nil)) ?_
  refine jye (jebl 3 1 zr22 fun p3=>?_)
  refine x_ent (freeze 2 rfl) ?_;refine x_ent (thawLB 26 [[UInt8.ofNat tag.toNat],lenL body.length,body] rfl rfl rfl rfl (.cons cZ (.cons cZ (.cons cZ .nil)))) ?_
  refine jye (jecP (concat8_ac [[UInt8.ofNat tag.toNat],lenL body.length,body] (by simp [sumL];omega) (by simp)) ?_)
  refine jU 8807070 ?_
  refine jR (jrt (hv:=cT (CEnt.bs (by rw [he,if_pos rfl];simp [putL])) (CEnt.nilE he)))
 ·refine jye (jecP (length_ac body.length (by omega)) ?_)
  refine jye (jebl 1 1 zr5 fun p2=>?_)
  refine x_ent (freeze 1 rfl) ?_;refine x_ent (thawBL 19 [UInt8.ofNat tag.toNat] rfl rfl rfl rfl (.cons (cI (by rw [UInt8.toNat_ofNat'];omega)) .nil)) ?_
  refine jye (jebl 3 1 zr22 fun p3=>?_)
  refine x_ent (freeze 2 rfl) ?_;refine x_ent (thawLB 26 [[UInt8.ofNat tag.toNat],lenL body.length,body] rfl rfl rfl rfl (.cons cZ (.cons cZ (.cons cZ .nil)))) ?_
  refine jye (jecP (concat8_ac [[UInt8.ofNat tag.toNat],lenL body.length,body] (by simp [sumL];omega) (by simp)) ?_)
  refine jU 8807070 ?_
  refine jR (jrt (hv:=cT (CEnt.bs (by rw [he,if_pos rfl];simp [putL])) (CEnt.nilE he)))
end
section
theorem cmp8_swap (a b:UInt8):cmp8 b a=- cmp8 a b:=by
 unfold cmp8
 rcases Nat.lt_trichotomy a.toNat b.toNat with h|h|h
 ·rw [if_neg (by omega),if_pos h,if_pos h];rfl
 ·rw [if_neg (by omega),if_neg (by omega),if_neg (by omega),if_neg (by omega)];rfl
 ·rw [if_pos h,if_neg (by omega),if_pos h]
theorem cmp8_zero {a b:UInt8} (h:cmp8 a b=0):a=b:=by
 unfold cmp8 at h
 split at h
 ·omega
 ·split at h
  ·omega
  ·exact UInt8.toNat_inj.1 (by omega)
theorem cmp8_iff (a b:UInt8):(cmp8 a b<0↔a.toNat<b.toNat)∧(cmp8 a b≤0↔a.toNat≤b.toNat):=by
 unfold cmp8
 split
 ·omega
 ·split <;> omega
theorem cmpL_swap:∀ l r:List UInt8,cmpL r l=- cmpL l r
 | [],[]=>rfl
 | [],_::_=>rfl
 | _::_,[]=>rfl
 | a::l,b::r=>by
  have h:=cmp8_swap a b
  have ih:=cmpL_swap l r
  rw [cmpL,cmpL]
  by_cases e:cmp8 a b=0
  ·rw [if_neg (by omega),if_neg (by omega),ih]
  ·rw [if_pos (by omega),if_pos e,h]
theorem cmpL_zero:∀ {l r:List UInt8},cmpL l r=0→l=r
 | [],[],_=>rfl
 | [],_::_,h=>by simp [cmpL] at h
 | _::_,[],h=>by simp [cmpL] at h
 | a::l,b::r,h=>by
  rw [cmpL] at h
  by_cases e:cmp8 a b=0
  ·rw [if_neg (fun x=>x e)] at h
   rw [cmp8_zero e,cmpL_zero h]
  ·rw [if_pos e] at h;exact absurd h e
theorem cmpL_trans:∀ {a b c:List UInt8},cmpL a b≤0→cmpL b c≤0→cmpL a c≤0
 | [],_,[],_,_=>Int.le_refl 0
 | [],_,_::_,_,_=>by show (-1:Int)≤0;decide
 | _::_,[],_,h,_=>by simp [cmpL] at h
 | _::_,_::_,[],_,h=>by simp [cmpL] at h
 | x::a,y::b,z::c,h1,h2=>by
  rw [cmpL] at h1 h2 ⊢
  have k1:=cmp8_iff x y;have k2:=cmp8_iff y z;have k3:=cmp8_iff x z
  by_cases e1:cmp8 x y=0
  ·have e:=cmp8_zero e1
   subst e
   rw [if_neg (fun q=>q e1)] at h1
   by_cases e2:cmp8 x z=0
   ·rw [if_neg (fun q=>q e2)] at h2 ⊢
    exact cmpL_trans h1 h2
   ·rw [if_pos e2] at h2 ⊢;exact h2
  ·rw [if_pos e1] at h1
   by_cases e2:cmp8 y z=0
   ·have e:=cmp8_zero e2
    subst e
    rw [if_pos e1];exact h1
   ·rw [if_pos e2] at h2
    have e3:cmp8 x z≠0:=fun e=>by
     have:=cmp8_zero e
     subst this
     have:=cmp8_swap x y
     omega
    rw [if_pos e3]
    omega
theorem cmpL_self (l:List UInt8):cmpL l l=0:=by have:=cmpL_swap l l;omega
theorem cmpL_swo {α:Type} (L:α→List UInt8):Go.Sort.SWO (fun x y:α=>decide (cmpL (L x) (L y)<0)) where
 irrefl:=fun x=>by rw [cmpL_self];rfl
 trans:=fun x y z h1 h2=>by
  simp only [decide_eq_true_eq] at h1 h2 ⊢
  have h3:=cmpL_trans (a:=L x) (b:=L y) (c:=L z) (by omega) (by omega)
  by_cases e:cmpL (L x) (L z)=0
  ·have:=cmpL_zero e
   have h4:=cmpL_swap (L y) (L z)
   rw [this] at h1
   omega
  ·omega
 ntrans:=fun x y z h1 h2=>by
  simp only [decide_eq_false_iff_not,Int.not_lt] at h1 h2 ⊢
  have s1:=cmpL_swap (L x) (L y);have s2:=cmpL_swap (L y) (L z);have s3:=cmpL_swap (L x) (L z)
  have h3:=cmpL_trans (a:=L z) (b:=L y) (c:=L x) (by omega) (by omega)
  omega
def leL (a b:List UInt8):Bool:=decide (cmpL a b≤0)
theorem leL_total (a b:List UInt8):(leL a b || leL b a)=true:=by
 have:=cmpL_swap a b
 unfold leL
 by_cases h:cmpL a b≤0
 ·simp [h]
 ·have:cmpL b a≤0:=by omega
  simp [this]
theorem leL_trans (a b c:List UInt8) (h1:leL a b=true) (h2:leL b c=true):leL a c=true:=by
 unfold leL at h1 h2 ⊢
 simp only [decide_eq_true_eq] at h1 h2 ⊢
 exact cmpL_trans h1 h2
theorem leL_anti {a b:List UInt8} (h1:leL a b=true) (h2:leL b a=true):a=b:=by
 unfold leL at h1 h2
 simp only [decide_eq_true_eq] at h1 h2
 have:=cmpL_swap a b
 exact cmpL_zero (by omega)
def sortL (ls:List (List UInt8)):List (List UInt8):=ls.mergeSort leL
theorem sortL_perm (ls:List (List UInt8)):(sortL ls).Perm ls:=List.mergeSort_perm ls leL
theorem sortL_sorted (ls:List (List UInt8)):(sortL ls).Pairwise fun a b=>leL a b=true:=List.pairwise_mergeSort leL_trans leL_total ls
theorem sorted_eq:∀ {l r:List (List UInt8)},l.Perm r→(l.Pairwise fun a b=>leL a b=true)→(r.Pairwise fun a b=>leL a b=true)→l=r
 | [],r,hp,_,_=>(List.nil_perm.1 hp).symm
 | a::l,[],hp,_,_=>absurd hp.symm.nil_eq (by simp)
 | a::l,b::r,hp,h1,h2=>by
  have ha:=List.pairwise_cons.1 h1
  have hb:=List.pairwise_cons.1 h2
  have e:a=b:=by
   have m1:a ∈ b::r:=hp.subset (List.mem_cons_self ..)
   have m2:b ∈ a::l:=hp.symm.subset (List.mem_cons_self ..)
   rcases List.mem_cons.1 m1 with h|h
   ·exact h
   ·rcases List.mem_cons.1 m2 with k|k
    ·exact k.symm
    ·exact leL_anti (ha.1 b k) (hb.1 a h)
  subst e
  rw [sorted_eq (List.perm_cons a |>.1 hp) ha.2 hb.2]
theorem sortL_of {l r:List (List UInt8)} (hp:l.Perm r) (h:l.Pairwise fun a b=>leL a b=true):l=sortL r:=sorted_eq (hp.trans (sortL_perm r).symm) h (sortL_sorted r)
theorem sortL_length (ls:List (List UInt8)):(sortL ls).length=ls.length:=(sortL_perm ls).length_eq
end
section
open Go.RowKit Go.Lib
def bt (l:List UInt8) (i:Nat):Nat:=(l.getD i 0).toNat
def dec1 (l:List UInt8):Nat×Nat:=Lib.decodeN l.length (bt l 0) (bt l 1) (bt l 2) (bt l 3)
theorem ba_bang (l:List UInt8) (i:Nat):((⟨l.toArray⟩:ByteArray).get! i).toNat=bt l i:=by
 show (l.toArray[i]!).toNat=_
 simp [bt,List.getD]
 rfl
theorem decodeL_dec1 (l:List UInt8):decodeL l=dec1 l:=by
 unfold decodeL dec1
 rw [Lib.decode_at,ba_bang,ba_bang,ba_bang,ba_bang]
 rfl
theorem dec1_width (l:List UInt8):1≤(dec1 l).2∧(dec1 l).2≤4:=by
 unfold dec1 Lib.decodeN
 repeat' split
 all_goals simp
def badR (c:Nat):Bool:=decide (c<32) || decide (c=127)
def plainGo:Nat→List UInt8→Bool
 | 0,_=>true
 | n+1,l=>if l=[] then true else if ((dec1 l).1=65533∧(dec1 l).2=1)∨badR (dec1 l).1=true then false else plainGo n (l.drop (dec1 l).2)
def plainM (l:List UInt8):Bool:=plainGo l.length l
def noBad:Nat→List UInt8→Bool
 | 0,_=>true
 | n+1,l=>if l=[] then true else if badR (dec1 l).1=true then false else noBad n (l.drop (dec1 l).2)
theorem plain_two:∀ (n:Nat) (l:List UInt8),plainGo n l=(noBad n l && validGoD n l)
 | 0,l=>rfl
 | n+1,l=>by
  rw [plainGo,noBad,validGoD,plain_two n,decodeL_dec1]
  by_cases h:l=[]
  ·simp [h]
  ·rw [if_neg h,if_neg h,if_neg h]
   by_cases h1:badR (dec1 l).1=true
   ·simp [h1]
   ·by_cases h2:(dec1 l).1=65533∧(dec1 l).2=1
    ·simp [h2]
    ·rw [if_neg (by simp [h1];intro h3 h4;exact h2 ⟨h3,h4⟩),if_neg h1,if_neg h2]
theorem fuel_plain:∀ (n m:Nat) (l:List UInt8),l.length≤n→l.length≤m→plainGo n l=plainGo m l
 | 0,m,l,h,_=>by
  have:l=[]:=List.length_eq_zero_iff.1 (by omega)
  subst this
  cases m <;> simp [plainGo]
 | n+1,0,l,_,h=>by
  have:l=[]:=List.length_eq_zero_iff.1 (by omega)
  subst this
  simp [plainGo]
 | n+1,m+1,l,h1,h2=>by
  rw [plainGo,plainGo]
  by_cases h:l=[]
  ·simp [h]
  ·have hw:=(dec1_width l).1
   have hp:=List.length_pos_iff.2 h
   rw [fuel_plain n m _ (by simp;omega) (by simp;omega)]
theorem plainM_step {l:List UInt8} (h:l≠[]):plainM l=if ((dec1 l).1=65533∧(dec1 l).2=1)∨badR (dec1 l).1=true then false else plainM (l.drop (dec1 l).2):=by
 have hp:=List.length_pos_iff.2 h
 have hw:=(dec1_width l).1
 unfold plainM
 obtain ⟨n,hn⟩:∃ n,l.length=n+1:=⟨l.length-1,by omega⟩
 rw [hn,plainGo,if_neg h,fuel_plain n (l.drop (dec1 l).2).length _ (by simp;omega) (Nat.le_refl _)]
theorem noBad_step {n:Nat} {l:List UInt8} (h:l≠[]):noBad (n+1) l=if badR (dec1 l).1=true then false else noBad n (l.drop (dec1 l).2):=by rw [noBad,if_neg h]
theorem noBad_fuel:∀ (n m:Nat) (l:List UInt8),l.length≤n→l.length≤m→noBad n l=noBad m l
 | 0,m,l,h,_=>by
  have:l=[]:=List.length_eq_zero_iff.1 (by omega)
  subst this
  cases m <;> simp [noBad]
 | n+1,0,l,_,h=>by
  have:l=[]:=List.length_eq_zero_iff.1 (by omega)
  subst this
  simp [noBad]
 | n+1,m+1,l,h1,h2=>by
  rw [noBad,noBad]
  by_cases h:l=[]
  ·simp [h]
  ·have hw:=(dec1_width l).1
   have hp:=List.length_pos_iff.2 h
   rw [noBad_fuel n m _ (by simp;omega) (by simp;omega)]
def noBadM (l:List UInt8):Bool:=noBad l.length l
theorem noBadM_step {l:List UInt8} (h:l≠[]):noBadM l=if badR (dec1 l).1=true then false else noBadM (l.drop (dec1 l).2):=by
 have hp:=List.length_pos_iff.2 h
 have hw:=(dec1_width l).1
 unfold noBadM
 obtain ⟨n,hn⟩:∃ n,l.length=n+1:=⟨l.length-1,by omega⟩
 rw [hn,noBad_step h,noBad_fuel n (l.drop (dec1 l).2).length _ (by simp;omega) (Nat.le_refl _)]
theorem plainM_two (l:List UInt8):plainM l=(noBadM l && validD l):=plain_two _ _
theorem ref_ascii {l:List UInt8} (h:l≠[]) (h0:bt l 0<128):plainM l=if bt l 0<32∨bt l 0=127 then false else plainM (l.drop 1):=by
 have e:dec1 l=(bt l 0,1):=by unfold dec1 Lib.decodeN;rw [if_pos h0]
 rw [plainM_step h,e]
 simp only [badR,Bool.or_eq_true,decide_eq_true_eq]
 by_cases h1:bt l 0<32∨bt l 0=127
 ·rw [if_pos (.inr h1),if_pos h1]
 ·rw [if_neg h1,if_neg (by omega)]
def askedM (l:List UInt8) (most:Int):Nat:=if l.length=0 then 2 else if most<l.length then 3 else if plainM l=false then 8 else 0
end
section
def rev8T:List UInt8:=[0,128,64,192,32,160,96,224,16,144,80,208,48,176,112,240,8,136,72,200,40,168,104,232,24,152,88,216,56,184,120,248,4,132,68,196,36,164,100,228,20,148,84,212,52,180,116,244,12,140,76,204,44,172,108,236,28,156,92,220,60,188,124,252,2,130,66,194,34,162,98,226,18,146,82,210,50,178,114,242,10,138,74,202,42,170,106,234,26,154,90,218,58,186,122,250,6,134,70,198,38,166,102,230,22,150,86,214,54,182,118,246,14,142,78,206,46,174,110,238,30,158,94,222,62,190,126,254,1,129,65,193,33,161,97,225,17,145,81,209,49,177,113,241,9,137,73,201,41,169,105,233,25,153,89,217,57,185,121,249,5,133,69,197,37,165,101,229,21,149,85,213,53,181,117,245,13,141,77,205,45,173,109,237,29,157,93,221,61,189,125,253,3,131,67,195,35,163,99,227,19,147,83,211,51,179,115,243,11,139,75,203,43,171,107,235,27,155,91,219,59,187,123,251,7,135,71,199,39,167,103,231,23,151,87,215,55,183,119,247,15,143,79,207,47,175,111,239,31,159,95,223,63,191,127,255]
def len8T:List UInt8:=[0,1,2,2,3,3,3,3,4,4,4,4,4,4,4,4,5,5,5,5,5,5,5,5,5,5,5,5,5,5,5,5,6,6,6,6,6,6,6,6,6,6,6,6,6,6,6,6,6,6,6,6,6,6,6,6,6,6,6,6,6,6,6,6,7,7,7,7,7,7,7,7,7,7,7,7,7,7,7,7,7,7,7,7,7,7,7,7,7,7,7,7,7,7,7,7,7,7,7,7,7,7,7,7,7,7,7,7,7,7,7,7,7,7,7,7,7,7,7,7,7,7,7,7,7,7,7,7,8,8,8,8,8,8,8,8,8,8,8,8,8,8,8,8,8,8,8,8,8,8,8,8,8,8,8,8,8,8,8,8,8,8,8,8,8,8,8,8,8,8,8,8,8,8,8,8,8,8,8,8,8,8,8,8,8,8,8,8,8,8,8,8,8,8,8,8,8,8,8,8,8,8,8,8,8,8,8,8,8,8,8,8,8,8,8,8,8,8,8,8,8,8,8,8,8,8,8,8,8,8,8,8,8,8,8,8,8,8,8,8,8,8,8,8,8,8,8,8,8,8,8,8,8,8,8,8]
def ntz8T:List UInt8:=[8,0,1,0,2,0,1,0,3,0,1,0,2,0,1,0,4,0,1,0,2,0,1,0,3,0,1,0,2,0,1,0,5,0,1,0,2,0,1,0,3,0,1,0,2,0,1,0,4,0,1,0,2,0,1,0,3,0,1,0,2,0,1,0,6,0,1,0,2,0,1,0,3,0,1,0,2,0,1,0,4,0,1,0,2,0,1,0,3,0,1,0,2,0,1,0,5,0,1,0,2,0,1,0,3,0,1,0,2,0,1,0,4,0,1,0,2,0,1,0,3,0,1,0,2,0,1,0,7,0,1,0,2,0,1,0,3,0,1,0,2,0,1,0,4,0,1,0,2,0,1,0,3,0,1,0,2,0,1,0,5,0,1,0,2,0,1,0,3,0,1,0,2,0,1,0,4,0,1,0,2,0,1,0,3,0,1,0,2,0,1,0,6,0,1,0,2,0,1,0,3,0,1,0,2,0,1,0,4,0,1,0,2,0,1,0,3,0,1,0,2,0,1,0,5,0,1,0,2,0,1,0,3,0,1,0,2,0,1,0,4,0,1,0,2,0,1,0,3,0,1,0,2,0,1,0]
def rev8 (n:Nat):Nat:=(List.range 8).foldl (fun a i=>a+n / 2 ^ i % 2 * 2 ^ (7-i)) 0
def len8 (n:Nat):Nat:=(List.range 8).foldl (fun a i=>if n / 2 ^ i % 2=1 then i+1 else a) 0
def ntz8 (n:Nat):Nat:=(List.range 8).foldr (fun i a=>if n / 2 ^ i % 2=1 then i else a) 8
theorem all_lt {n:Nat} {p:Nat→Bool} (h:(List.range n).all p=true) {i:Nat} (hi:i<n):p i=true:=List.all_eq_true.1 h i (List.mem_range.2 hi)
theorem rev8T_get {i:Nat} (h:i<256):(rev8T.getD i 0).toNat=rev8 i:=by
 have:=all_lt (n:=256) (p:=fun i=>(rev8T.getD i 0).toNat == rev8 i) (by decide +kernel) h
 simpa using this
theorem len8T_get {i:Nat} (h:i<256):(len8T.getD i 0).toNat=len8 i:=by
 have:=all_lt (n:=256) (p:=fun i=>(len8T.getD i 0).toNat == len8 i) (by decide +kernel) h
 simpa using this
theorem rev8_lt {i:Nat} (h:i<256):rev8 i<256:=by
 have:=all_lt (n:=256) (p:=fun i=>decide (rev8 i<256)) (by decide +kernel) h
 simpa using this
theorem len8_bd {i:Nat} (h:i<256):i<2 ^ len8 i∧len8 i≤8∧(len8 i=0∨2 ^ (len8 i-1)≤i):=by
 have:=all_lt (n:=256) (p:=fun i=>decide (i<2 ^ len8 i∧len8 i≤8∧(len8 i=0∨2 ^ (len8 i-1)≤i))) (by decide +kernel) h
 simpa using this
def IsBl (m n:Nat):Prop:=m<2 ^ n∧(n=0∨2 ^ (n-1)≤m)
def bl (m:Nat):Nat:=if 256≤m then 8+len8 (m / 256) else len8 m
theorem bl_is {m:Nat} (h:m<65536):IsBl m (bl m)∧bl m≤16:=by
 unfold bl
 split
 ·obtain ⟨h1,h2,h3⟩:=len8_bd (i:=m / 256) (by omega)
  refine ⟨⟨?_,?_⟩,by omega⟩
  ·rw [Nat.pow_add];omega
  ·right
   rcases h3 with h3|h3
   ·rw [h3] at h1;simp at h1;omega
   ·rw [show 8+len8 (m / 256)-1=8+(len8 (m / 256)-1) by
     have:len8 (m / 256)≠0:=fun h=>by rw [h] at h1;simp at h1;omega
     omega,Nat.pow_add]
    omega
 ·obtain ⟨h1,h2,h3⟩:=len8_bd (i:=m) (by omega)
  exact ⟨⟨h1,h3⟩,by omega⟩
def rev16 (x:Nat):Nat:=rev8 (x / 256)+256 * rev8 (x % 256)
theorem rev16_lt {x:Nat} (h:x<65536):rev16 x<65536:=by
 have h1:=rev8_lt (i:=x / 256) (by omega)
 have h2:=rev8_lt (i:=x % 256) (by omega)
 unfold rev16;omega
def flagsL (m:Nat):List UInt8:=UInt8.ofNat ((8-bl m % 8) % 8)::(if bl m=0 then [] else if bl m≤8 then [UInt8.ofNat (rev8 (m % 256))] else [UInt8.ofNat (rev8 (m % 256)),UInt8.ofNat (rev8 (m / 256))])
def maskM (b:List UInt8):Nat×Nat :=
 if b.length=0 then (0,2) else
 if 8≤(b.getD 0 0).toNat∨3<b.length∨(b.length=1∧0<(b.getD 0 0).toNat) then (0,4) else
 if b.length=1 then (0,0) else
 if ntz8 (b.getD (b.length-1) 0).toNat≠(b.getD 0 0).toNat then (0,4) else
 let m:=rev8 (b.getD 1 0).toNat+256 * (if b.length=3 then rev8 (b.getD 2 0).toNat else 0)
 if 32768≤m then (0,1) else (m,0)
end
section
theorem u8_ofNat {n:Nat} (h:n<256):(UInt8.ofNat n).toNat=n:=by
 simp [UInt8.toNat_ofNat'];omega
theorem flags_len {m:Nat} (h:m<65536):(flagsL m).length=1+(bl m+7) / 8:=by
 have:=(bl_is h).2
 unfold flagsL
 split
 ·rename_i e;rw [e];rfl
 ·split
  ·simp;omega
  ·simp;omega
def lo8 (M i:Nat):Nat:=M % 2 ^ (min i 8)
def hi8 (M i:Nat):Nat:=M / 256 % 2 ^ (i-8)
def gF (M n i j:Nat):Nat:=if j=0 then (8-n % 8) % 8 else if j=1 then rev8 (lo8 M i) else rev8 (hi8 M i)
end
end Am
end Go.Proofs.YthlpfjnkieaeeaaGreatDoor
namespace Go.Proofs.YthlpfjnkieaeeaaGreatDoor
open Go.RowKit

def byte (n:Int):UInt8:=UInt8.ofNat (n % 256).toNat
theorem byte_toNat (n:Int):((byte n).toNat:Int)=n % 256:=by
 have h0:0≤n % 256:=Int.emod_nonneg _ (by decide)
 have h1:n % 256<256:=Int.emod_lt_of_pos _ (by decide)
 have:(byte n).toNat=(n % 256).toNat:=by
  unfold byte
  rw [UInt8.toNat_ofNat']
  omega
 omega
def sh:Nat→Int→Int
 | 0,n=>n
 | k+1,n=>sh k n / 256
def digs (k:Nat) (n:Int):List UInt8:=(List.range k).map fun j=>byte (sh j n)
theorem digs_length (k:Nat) (n:Int):(digs k n).length=k:=by simp [digs]
theorem digs_succ (k:Nat) (n:Int):digs (k+1) n=digs k n++[byte (sh k n)]:=by simp [digs,List.range_succ]
theorem digs_get (k:Nat) (n:Int) (j:Nat) (h:j<k):(digs k n).getD j 0=byte (sh j n):=by simp [digs,List.getD,h]
def stp (j:Nat) (n:Int):Bool:=(sh (j+1) n == 0 && decide (sh j n % 256<128)) || (sh (j+1) n == -1 && decide (128≤sh j n % 256))
theorem stp_iff (j:Nat) (n:Int):stp j n=true↔-128≤sh j n∧sh j n<128:=by
 simp only [stp,sh,Bool.or_eq_true,Bool.and_eq_true,beq_iff_eq,decide_eq_true_eq]
 constructor
 ·intro h;omega
 ·intro h;omega
theorem stp_seven (n:Int) (h1:-9223372036854775808≤n) (h2:n≤9223372036854775807):stp 7 n=true:=by
 rw [stp_iff]
 simp only [sh]
 omega
def IsLen (n:Int) (k:Nat):Prop:=k≤7∧stp k n=true∧∀ j,j<k→stp j n=false
theorem IsLen.unique {n:Int} {k m:Nat} (h:IsLen n k) (g:IsLen n m):k=m:=by
 rcases Nat.lt_trichotomy k m with h1|h1|h1
 ·have:=g.2.2 k h1;rw [h.2.1] at this;cases this
 ·exact h1
 ·have:=h.2.2 m h1;rw [g.2.1] at this;cases this

def sgn (c:UInt8):Int:=if c.toNat<128 then c.toNat else (c.toNat:Int)-256
def valS (l:List UInt8):Int:=match l with
 | []=>0
 | c::r=>r.foldl (fun a b=>a * 256+b.toNat) (sgn c)
theorem valS_snoc (l:List UInt8) (hl:l≠[]) (c:UInt8):valS (l++[c])=valS l * 256+c.toNat:=by
 cases l with
 | nil=>exact absurd rfl hl
 | cons x r=>simp [valS,List.foldl_append]
theorem valS_digs (n:Int):∀ k,stp k n=true→valS (digs (k+1) n).reverse=n:=by
 intro k h
 have key:∀ j,j≤k→valS ((digs (k+1) n).reverse.take (j+1))=sh (k-j) n:=by
  intro j
  induction j with
  | zero =>
   intro _
   rw [digs_succ]
   simp only [List.reverse_append,List.reverse_cons,List.reverse_nil,List.nil_append,List.singleton_append,List.take_succ_cons,List.take_zero,valS,List.foldl_nil,sgn,Nat.sub_zero]
   rw [stp_iff] at h
   have:=byte_toNat (sh k n)
   split <;> omega
  | succ j ih =>
   intro hj
   have hlen:j+1<(digs (k+1) n).reverse.length:=by simp [digs_length];omega
   rw [List.take_succ_eq_append_getElem hlen,valS_snoc _ (by intro e;have:=congrArg List.length e;simp [digs_length] at this),ih (by omega)]
   have eg:(digs (k+1) n).reverse[j+1]=byte (sh (k-(j+1)) n):=by
    rw [List.getElem_reverse]
    have:=digs_get (k+1) n ((digs (k+1) n).length-1-(j+1)) (by rw [digs_length];omega)
    simp only [List.getD,digs_length] at this ⊢
    rw [List.getElem?_eq_getElem (by rw [digs_length];omega)] at this
    simp only [Option.getD_some] at this
    rw [show k-(j+1)=k+1-1-(j+1) by omega]
    exact this
   rw [eg,byte_toNat,show k-j=(k-(j+1))+1 by omega]
   simp only [sh]
   omega
 have:=key k (Nat.le_refl _)
 rw [List.take_of_length_le (by simp [digs_length])] at this
 simpa [sh] using this

def idle (l:List UInt8):Bool:=match l with
 | a::b::_=>(a.toNat == 0 && decide (b.toNat<128)) || (a.toNat == 255 && decide (128≤b.toNat))
 | _=>false
def getM (l:List UInt8):Int×Nat :=
 if l.length=0 then (0,2) else if idle l=true then (0,4) else if 8<l.length then (0,1) else (valS l,0)

theorem digs_rev_cons (k:Nat) (n:Int):(digs (k+2) n).reverse=byte (sh (k+1) n)::byte (sh k n)::(digs k n).reverse:=by
 rw [digs_succ,digs_succ]
 simp
theorem idle_digs (n:Int) (k:Nat) (h:stp (k+1) n=true):idle (digs (k+2) n).reverse=stp k n:=by
 rw [digs_rev_cons]
 rw [stp_iff] at h
 have e:=stp_iff k n
 rw [Bool.eq_iff_iff,e]
 simp only [idle,Bool.or_eq_true,Bool.and_eq_true,beq_iff_eq,decide_eq_true_eq]
 have h1:=byte_toNat (sh (k+1) n)
 have h2:=byte_toNat (sh k n)
 simp only [sh] at h h1 h2 ⊢
 omega
theorem getM_put (n:Int) (k:Nat) (h:IsLen n k):getM (digs (k+1) n).reverse=(n,0):=by
 have hi:idle (digs (k+1) n).reverse=false:=by
  cases k with
  | zero=>simp [digs,idle]
  | succ k=>rw [idle_digs n k h.2.1];exact h.2.2 k (by omega)
 have:=h.1
 simp [getM,digs_length,hi,valS_digs n k h.2.1]
 omega
end Go.Proofs.YthlpfjnkieaeeaaGreatDoor
namespace Go.Proofs.YthlpfjnkieaeeaaGreatDoor
open Go.RowKit

def fig (d:Nat):UInt8:=byte (48+d:Nat)
def dec (n:Nat):List UInt8:=if n<10 then [fig n] else dec (n / 10)++[fig (n % 10)]
termination_by n

def isFig (c:UInt8):Bool:=decide (48≤c.toNat) && decide (c.toNat≤57)
def valD (l:List UInt8):Nat:=l.foldl (fun a c=>10 * a+(c.toNat-48)) 0
def figM (l:List UInt8):Nat×Nat:=if l.length=0∨18<l.length∨(1<l.length∧(l.getD 0 0).toNat=48)∨l.all isFig=false then (0,4) else (valD l,0)

theorem dec_small {n:Nat} (h:n<10):dec n=[fig n]:=by rw [dec,if_pos h]
theorem dec_big {n:Nat} (h:¬ n<10):dec n=dec (n / 10)++[fig (n % 10)]:=by rw [dec,if_neg h]
theorem fig_toNat (n:Nat) (h:n<10):(fig n).toNat=48+n:=by
 unfold fig
 have:=byte_toNat ((48+n:Nat):Int)
 omega
theorem valD_append (l:List UInt8) (c:UInt8):valD (l++[c])=10 * valD l+(c.toNat-48):=by simp [valD]

theorem dec_ind {p:Nat→Prop} (h0:∀ n,n<10→p n) (h1:∀ n,¬ n<10→p (n / 10)→p n) (n:Nat):p n:=by
 induction n using Nat.strongRecOn with
 | ind n ih =>
  by_cases h:n<10
  ·exact h0 n h
  ·exact h1 n h (ih _ (by omega))

theorem dec_pos (n:Nat):0<(dec n).length:=by
 by_cases h:n<10
 ·rw [dec_small h];simp
 ·rw [dec_big h];simp
theorem dec_figs (n:Nat):(dec n).all isFig=true:=by
 induction n using dec_ind with
 | h0 n h =>
  rw [dec_small h]
  have:=fig_toNat n h
  simp [isFig,this];omega
 | h1 n h ih =>
  rw [dec_big h,List.all_append,ih]
  have:=fig_toNat (n % 10) (by omega)
  simp [isFig,this];omega
theorem dec_val (n:Nat):valD (dec n)=n:=by
 induction n using dec_ind with
 | h0 n h =>
  rw [dec_small h]
  have:=fig_toNat n h
  simp [valD,this]
 | h1 n h ih =>
  rw [dec_big h,valD_append,ih]
  have:=fig_toNat (n % 10) (by omega)
  omega
theorem dec_head (n:Nat):1<(dec n).length→((dec n).getD 0 0).toNat≠48:=by
 induction n using dec_ind with
 | h0 n h=>rw [dec_small h];simp
 | h1 n h ih =>
  intro _
  rw [dec_big h]
  have hp:=dec_pos (n / 10)
  have e:(dec (n / 10)++[fig (n % 10)]).getD 0 0=(dec (n / 10)).getD 0 0:=by
   simp only [List.getD,List.getElem?_append_left hp]
  rw [e]
  by_cases hs:n / 10<10
  ·rw [dec_small hs]
   have:=fig_toNat (n / 10) hs
   simp only [List.getD,List.getElem?_cons_zero,Option.getD_some]
   omega
  ·apply ih
   rw [dec_big hs]
   have:=dec_pos (n / 10 / 10)
   simp
   omega
theorem dec_len (k:Nat):∀ n,n<10 ^ (k+1)→(dec n).length≤k+1:=by
 induction k with
 | zero=>intro n h;rw [dec_small (by simpa using h)];simp
 | succ k ih =>
  intro n h
  by_cases hs:n<10
  ·rw [dec_small hs];simp
  ·rw [dec_big hs]
   have:=ih (n / 10) (by rw [Nat.pow_succ] at h;omega)
   simp;omega
theorem snoc_ind {p:List UInt8→Prop} (h0:p []) (h1:∀ l c,p l→p (l++[c])) (l:List UInt8):p l:=by
 have h:∀ l:List UInt8,p l.reverse:=by
  intro l
  induction l with
  | nil=>exact h0
  | cons c l ih=>rw [List.reverse_cons];exact h1 _ _ ih
 have:=h l.reverse
 rwa [List.reverse_reverse] at this
theorem all_snoc {l:List UInt8} {c:UInt8} (h:(l++[c]).all isFig=true):l.all isFig=true∧48≤c.toNat∧c.toNat≤57:=by
 simp only [List.all_append,List.all_cons,List.all_nil,Bool.and_true,Bool.and_eq_true,isFig,decide_eq_true_eq] at h
 exact ⟨by simpa [isFig] using h.1,h.2⟩
theorem head_snoc {l:List UInt8} {c:UInt8} (h:0<l.length):(l++[c]).getD 0 0=l.getD 0 0:=by
 simp only [List.getD,List.getElem?_append_left h]
theorem valD_lt (l:List UInt8):l.all isFig=true→valD l<10 ^ l.length:=by
 induction l using snoc_ind with
 | h0=>intro _;simp [valD]
 | h1 l c ih =>
  intro h
  obtain ⟨h1,h2,h3⟩:=all_snoc h
  have:=ih h1
  rw [valD_append,List.length_append,List.length_singleton,Nat.pow_succ]
  omega
theorem valD_lt17 {l:List UInt8} (h:l.all isFig=true) (hl:l.length≤17):valD l<100000000000000000 :=
 Nat.lt_of_lt_of_le (valD_lt l h) (Nat.le_trans (Nat.pow_le_pow_right (by decide) hl) (by decide))
theorem valD_pos (l:List UInt8):0<l.length→l.all isFig=true→(l.getD 0 0).toNat≠48→0<valD l:=by
 induction l using snoc_ind with
 | h0=>simp
 | h1 l c ih =>
  intro _ h hh
  obtain ⟨h1,h2,h3⟩:=all_snoc h
  rw [valD_append]
  by_cases hl:l=[]
  ·subst hl
   simp only [List.nil_append,List.getD,List.getElem?_cons_zero,Option.getD_some] at hh
   omega
  ·have hp:=List.length_pos_iff.2 hl
   rw [head_snoc hp] at hh
   have:=ih hp h1 hh
   omega
theorem fig_back {c:UInt8} (h2:48≤c.toNat):fig (c.toNat-48)=c:=by
 unfold fig
 apply UInt8.toNat_inj.1
 have:=byte_toNat ((48+(c.toNat-48):Nat):Int)
 have:=c.toNat_lt
 omega
theorem dec_valD (l:List UInt8):0<l.length→l.all isFig=true→(1<l.length→(l.getD 0 0).toNat≠48)→dec (valD l)=l:=by
 induction l using snoc_ind with
 | h0=>simp
 | h1 l c ih =>
  intro _ h hh
  obtain ⟨h1,h2,h3⟩:=all_snoc h
  rw [valD_append]
  by_cases hl:l=[]
  ·subst hl
   show dec (10 * 0+(c.toNat-48))=[c]
   rw [Nat.mul_zero,Nat.zero_add,dec_small (by omega),fig_back h2]
  ·have hp:=List.length_pos_iff.2 hl
   rw [head_snoc hp] at hh
   have h0:=hh (by simp;omega)
   have hv:=valD_pos l hp h1 h0
   rw [dec_big (by omega),show (10 * valD l+(c.toNat-48)) / 10=valD l by omega,show (10 * valD l+(c.toNat-48)) % 10=c.toNat-48 by omega,fig_back h2,ih hp h1 (fun _=>h0)]
theorem figM_dec {n:Nat} (h:n<1000000000000000000):figM (dec n)=(n,0):=by
 have h1:=dec_pos n
 have h2:=dec_len 17 n h
 have h3:=dec_head n
 unfold figM
 rw [if_neg,dec_val]
 rintro (h|h|⟨h,h'⟩|h)
 ·omega
 ·omega
 ·exact h3 h h'
 ·rw [dec_figs] at h;cases h
theorem figM_ref (l:List UInt8):figM l=if 1≤l.length∧l.length≤18∧l.all isFig=true∧dec (valD l)=l then (valD l,0) else (0,4):=by
 unfold figM
 split
 ·rename_i h
  rw [if_neg]
  rintro ⟨h1,h2,h3,h4⟩
  rcases h with h|h|⟨h,h'⟩|h
  ·omega
  ·omega
  ·rw [← h4] at h h'
   exact dec_head _ h h'
  ·rw [h3] at h;cases h
 ·rename_i h
  have h1:¬ l.length=0:=fun e=>h (.inl e)
  have h2:¬ 18<l.length:=fun e=>h (.inr (.inl e))
  have h3:l.all isFig=true:=by
   cases e:l.all isFig with
   | true=>rfl
   | false=>exact absurd (.inr (.inr (.inr e))) h
  have h4:1<l.length→(l.getD 0 0).toNat≠48:=fun a b=>h (.inr (.inr (.inl ⟨a,b⟩)))
  rw [if_pos ⟨by omega,by omega,h3,dec_valD l (by omega) h3 h4⟩]
theorem take_snoc (l:List UInt8) (i:Nat) (h:i<l.length):l.take (i+1)=l.take i++[l.getD i 0]:=by
 rw [List.take_succ_eq_append_getElem h]
 simp [List.getD,List.getElem?_eq_getElem h]
theorem all_of_bad {l:List UInt8} {i:Nat} (hi:i<l.length) (h:isFig (l.getD i 0)=false):l.all isFig=false:=by
 cases e:l.all isFig with
 | false=>rfl
 | true =>
  rw [List.all_eq_true] at e
  have:=e (l.getD i 0) (by simp [List.getD,List.getElem?_eq_getElem hi])
  rw [h] at this
  cases this
end Go.Proofs.YthlpfjnkieaeeaaGreatDoor
namespace Go.Proofs.YthlpfjnkieaeeaaGreatDoor
set_option linter.unusedVariables false
namespace Am
open Go.RowKit
section
theorem getD_app {q r:List UInt8} {i:Nat} (h:i<q.length):(q++r).getD i 0=q.getD i 0:=by simp [List.getD,List.getElem?_append_left h]
theorem ex_snoc {l:List UInt8} (h:l≠[]):∃ q c,l=q++[c]:=⟨l.dropLast,l.getLast h,(List.dropLast_concat_getLast h).symm⟩
def consHead (x:UInt8):List (List UInt8)→List (List UInt8)
 | []=>[[x]]
 | p::r=>(x::p)::r
def splitC (c:UInt8):List UInt8→List (List UInt8)
 | []=>[[]]
 | x::l=>if x=c then []::splitC c l else consHead x (splitC c l)
def joinC (c:UInt8):List (List UInt8)→List UInt8
 | []=>[]
 | [p]=>p
 | p::q::r=>p++c::joinC c (q::r)
theorem splitC_ne (c:UInt8) (l:List UInt8):splitC c l≠[]:=by
 cases l with
 | nil=>simp [splitC]
 | cons x l =>
  rw [splitC]
  split
  ·simp
  ·cases splitC c l <;> simp [consHead]
theorem splitC_none {c:UInt8}:∀ {l:List UInt8},c ∉ l→splitC c l=[l]
 | [],_=>rfl
 | x::l,h=>by
  have h1:x≠c:=fun e=>h (by simp [e])
  have h2:c ∉ l:=fun e=>h (by simp [e])
  rw [splitC,if_neg h1,splitC_none h2];rfl
theorem splitC_at {c:UInt8}:∀ {p:List UInt8} (r:List UInt8),c ∉ p→splitC c (p++c::r)=p::splitC c r
 | [],r,_=>by simp [splitC]
 | x::l,r,h=>by
  have h1:x≠c:=fun e=>h (by simp [e])
  have h2:c ∉ l:=fun e=>h (by simp [e])
  rw [List.cons_append,splitC,if_neg h1,splitC_at r h2];rfl
theorem join_head (c:UInt8) (x:UInt8):∀ ls:List (List UInt8),ls≠[]→joinC c (consHead x ls)=x::joinC c ls
 | [],h=>absurd rfl h
 | [p],_=>rfl
 | p::q::r,_=>rfl
theorem join_split (c:UInt8):∀ l:List UInt8,joinC c (splitC c l)=l
 | []=>rfl
 | x::l=>by
  rw [splitC]
  have ih:=join_split c l
  have hne:=splitC_ne c l
  split
  ·rename_i e
   subst e
   revert ih hne
   cases splitC x l with
   | nil=>intro _ h;exact absurd rfl h
   | cons p r=>intro ih _;rw [joinC,ih];rfl
  ·rw [join_head c x _ hne,ih]
theorem split_join {c:UInt8}:∀ {ls:List (List UInt8)},ls≠[]→(∀ p ∈ ls,c ∉ p)→splitC c (joinC c ls)=ls
 | [],h,_=>absurd rfl h
 | [p],_,h=>by rw [joinC,splitC_none (h p (by simp))]
 | p::q::r,_,h=>by
  rw [joinC,splitC_at _ (h p (by simp)),split_join (by simp) (fun x hx=>h x (by simp at hx ⊢;exact .inr hx))]
def okP (p:List UInt8):Bool:=decide ((figM p).2=0) && decide (p.length≤10)
def valP (p:List UInt8):Int:=((figM p).1:Nat)
def rightA (l:List Int):Bool:=decide (2≤l.length) && decide (l.length≤16) && l.all (fun n=>decide (0≤n) && decide (n≤2147483647)) && decide (l.getD 0 0≤2) && (decide (l.getD 0 0=2) || decide (l.getD 1 0<40))
def parseM (s:List UInt8):List Int×Nat :=
 if ((splitC 46 s).all okP)=false then ([],4) else if rightA ((splitC 46 s).map valP)=false then ([],1) else ((splitC 46 s).map valP,0)

def sepHi (m:Nat):List UInt8:=if h:m=0 then [] else sepHi (m / 128)++[UInt8.ofNat (m % 128+128)]
termination_by m
decreasing_by omega
def sepL (n:Nat):List UInt8:=sepHi (n / 128)++[UInt8.ofNat (n % 128)]
theorem sepHi_zero:sepHi 0=[]:=by rw [sepHi];simp
theorem sepHi_pos {m:Nat} (h:m≠0):sepHi m=sepHi (m / 128)++[UInt8.ofNat (m % 128+128)]:=by rw [sepHi,dif_neg h]
theorem sepHi_len (k:Nat):∀ m,m<128 ^ k→(sepHi m).length≤k:=by
 induction k with
 | zero =>
   intro m h;have:m=0:=by simpa using h
   subst this;rw [sepHi_zero];simp
 | succ k ih =>
  intro m h
  by_cases h0:m=0
  ·subst h0;rw [sepHi_zero];simp
  ·rw [sepHi_pos h0,List.length_append]
   have:=ih (m / 128) (Nat.div_lt_of_lt_mul (by rw [Nat.pow_succ] at h;omega))
   simp;omega
theorem sepL_len {n:Nat} (h:n<34359738368):(sepL n).length≤5:=by
 have:=sepHi_len 4 (n / 128) (by omega)
 simp [sepL];omega
theorem sepL_pos (n:Nat):0<(sepL n).length:=by simp [sepL]
def valSO (l:List UInt8):Nat:=l.foldl (fun a c=>a * 128+c.toNat % 128) 0
theorem valSO_snoc (l:List UInt8) (c:UInt8):valSO (l++[c])=valSO l * 128+c.toNat % 128:=by simp [valSO]
theorem valS_hi (m:Nat):valSO (sepHi m)=m:=by
 induction m using Nat.strongRecOn with
 | ind m ih =>
  by_cases h0:m=0
  ·subst h0;rw [sepHi_zero];rfl
  ·rw [sepHi_pos h0,valSO_snoc,ih _ (by omega),UInt8.toNat_ofNat']
   omega
theorem valS_sep (n:Nat):valSO (sepL n)=n:=by
 rw [sepL,valSO_snoc,valS_hi,UInt8.toNat_ofNat']
 omega
theorem sepHi_big (m:Nat):∀ c ∈ sepHi m,128≤c.toNat:=by
 induction m using Nat.strongRecOn with
 | ind m ih =>
  by_cases h0:m=0
  ·subst h0;rw [sepHi_zero];simp
  ·rw [sepHi_pos h0]
   intro c hc
   rcases List.mem_append.1 hc with h|h
   ·exact ih _ (by omega) c h
   ·rw [List.mem_singleton] at h;subst h;rw [UInt8.toNat_ofNat'];omega
theorem sepHi_head (m:Nat) (h:m≠0):((sepHi m).getD 0 0).toNat≠128:=by
 induction m using Nat.strongRecOn with
 | ind m ih =>
  rw [sepHi_pos h]
  by_cases h1:m / 128=0
  ·rw [h1,sepHi_zero]
   simp only [List.nil_append,List.getD_cons_zero]
   rw [UInt8.toNat_ofNat'];omega
  ·have:=ih (m / 128) (by omega) h1
   have hp:0<(sepHi (m / 128)).length:=by rw [sepHi_pos h1];simp
   rwa [getD_app hp]
def runLen:List UInt8→Nat
 | []=>0
 | c::l=>if c.toNat<128 then 1 else 1+runLen l
theorem runLen_le:∀ l:List UInt8,runLen l≤l.length
 | []=>Nat.le_refl _
 | c::l=>by
  have:=runLen_le l
  rw [runLen];split <;> simp <;> omega
theorem runLen_pos {l:List UInt8} (h:l≠[]):0<runLen l:=by
 cases l with
 | nil=>exact absurd rfl h
 | cons c l=>rw [runLen];split <;> omega
theorem runLen_app {l:List UInt8} (h:∀ c ∈ l,128≤c.toNat) (x:UInt8) (hx:x.toNat<128) (r:List UInt8):runLen (l++x::r)=l.length+1:=by
 induction l with
 | nil=>simp [runLen,hx]
 | cons c l ih =>
  have h1:=h c (by simp)
  rw [List.cons_append,runLen,if_neg (by omega),ih (fun d hd=>h d (by simp [hd]))]
  simp;omega
def numM (run:List UInt8) (most:Nat):Nat×Nat :=
 if 128≤(run.getD (run.length-1) 0).toNat then (0,2) else if (run.getD 0 0).toNat=128 then (0,4) else if most<valSO run then (0,1) else (valSO run,0)
def numsM (most:Nat) (b:List UInt8):List Nat×Nat :=
 if h:b=[] then ([],0) else
  if (numM (b.take (runLen b)) most).2≠0 then ([],(numM (b.take (runLen b)) most).2) else
   if (numsM 2147483647 (b.drop (runLen b))).2≠0 then ([],(numsM 2147483647 (b.drop (runLen b))).2) else
    ((numM (b.take (runLen b)) most).1::(numsM 2147483647 (b.drop (runLen b))).1,0)
termination_by b.length
decreasing_by
 all_goals
  have:=runLen_pos h
  have:=List.length_pos_iff.2 h
  simp;omega
def arcsOf:List Nat→List Int
 | []=>[]
 | n::r=>(min (n / 40) 2:Nat)::((n:Int)-40 * (min (n / 40) 2:Nat))::r.map Int.ofNat
def getA (b:List UInt8):List Int×Nat :=
 if b=[] then ([],2) else if (numsM 2147483727 b).2≠0 then ([],(numsM 2147483727 b).2) else
  if rightA (arcsOf (numsM 2147483727 b).1)=false then ([],1) else (arcsOf (numsM 2147483727 b).1,0)
def putA (l:List Int):List UInt8:=sepL (40 * l.getD 0 0+l.getD 1 0).toNat++((l.drop 2).map fun n=>sepL n.toNat).flatten
theorem run_sep (n:Nat) (r:List UInt8):runLen (sepL n++r)=(sepL n).length:=by
 rw [sepL,List.append_assoc,List.singleton_append,runLen_app (sepHi_big _) _ (by rw [UInt8.toNat_ofNat'];omega)]
 simp
theorem num_sep {n most:Nat} (h:n≤most):numM (sepL n) most=(n,0):=by
 have h1:(sepL n).getD ((sepL n).length-1) 0=UInt8.ofNat (n % 128):=by
  simp [sepL,List.getD]
 have h2:((sepL n).getD 0 0).toNat≠128:=by
  by_cases h0:n / 128=0
  ·rw [sepL,h0,sepHi_zero]
   simp only [List.nil_append,List.getD_cons_zero]
   rw [UInt8.toNat_ofNat'];omega
  ·have:=sepHi_head _ h0
   have hp:0<(sepHi (n / 128)).length:=by rw [sepHi_pos h0];simp
   rw [sepL]
   rwa [getD_app hp]
 have h3:(UInt8.ofNat (n % 128)).toNat=n % 128:=by rw [UInt8.toNat_ofNat'];omega
 unfold numM
 rw [h1,h3,if_neg (by omega),if_neg h2,valS_sep,if_neg (by omega)]
theorem nums_sep {n most:Nat} (h:n≤most) (r:List UInt8) (l:List Nat) (hr:numsM 2147483647 r=(l,0)):numsM most (sepL n++r)=(n::l,0):=by
 have hp:=sepL_pos n
 rw [numsM,dif_neg (by intro e;have:=congrArg List.length e;rw [List.length_append,List.length_nil] at this;omega),run_sep,List.take_left,List.drop_left,num_sep h,hr]
 simp
theorem nums_all (l:List Nat) (h:∀ n ∈ l,n≤2147483647):numsM 2147483647 ((l.map sepL).flatten)=(l,0):=by
 induction l with
 | nil=>rw [numsM];simp
 | cons n l ih =>
  rw [List.map_cons,List.flatten_cons]
  exact nums_sep (h n (by simp)) _ _ (ih fun m hm=>h m (by simp [hm]))
theorem right_at {l:List Int} (h:rightA l=true):2≤l.length∧l.length≤16∧(∀ n ∈ l,0≤n∧n≤2147483647)∧l.getD 0 0≤2∧(l.getD 0 0=2∨l.getD 1 0<40):=by
 simp only [rightA,Bool.and_eq_true,Bool.or_eq_true,decide_eq_true_eq,List.all_eq_true] at h
 obtain ⟨⟨⟨⟨h1,h2⟩,h3⟩,h4⟩,h5⟩:=h
 exact ⟨h1,h2,fun n hn=>h3 n hn,h4,h5⟩
theorem arcs_two {a b:Int} {r:List Nat} (h:0≤a∧a≤2) (hb:0≤b) (h2:a=2∨b<40):arcsOf ((40 * a+b).toNat::r)=a::b::r.map Int.ofNat:=by
 have e:min ((40 * a+b).toNat / 40) 2=a.toNat:=by omega
 simp only [arcsOf,e]
 refine congr (congrArg _ (by omega)) (congr (congrArg _ (by omega)) rfl)
theorem get_put {l:List Int} (h:rightA l=true):getA (putA l)=(l,0):=by
 obtain ⟨h1,h2,h3,h4,h5⟩:=right_at h
 match l,h1 with
 | a::b::r,_ =>
  simp only [List.getD_cons_zero,List.getD_cons_succ] at h4 h5
  have ha:=h3 a (by simp)
  have hb:=h3 b (by simp)
  have hr:∀ n ∈ r.map Int.toNat,n≤2147483647:=fun n hn=>by
   obtain ⟨m,hm,rfl⟩:=List.mem_map.1 hn
   have:=h3 m (by simp [hm]);omega
  have hn:=nums_all _ hr
  rw [List.map_map] at hn
  have hs:=nums_sep (n:=(40 * a+b).toNat) (most:=2147483727) (by omega) _ _ hn
  have hput:putA (a::b::r)=sepL (40 * a+b).toNat++(r.map (sepL ∘ Int.toNat)).flatten:=rfl
  have hne:putA (a::b::r)≠[]:=fun e=>by
   have:=congrArg List.length e
   rw [hput] at this
   have hp:=sepL_pos (40 * a+b).toNat
   rw [List.length_append,List.length_nil] at this;omega
  have e:arcsOf ((40 * a+b).toNat::r.map Int.toNat)=a::b::r:=by
   rw [arcs_two ⟨ha.1,h4⟩ hb.1 h5,List.map_map]
   refine congrArg _ (congrArg _ ?_)
   refine (List.map_congr_left fun x hx=>?_).trans (List.map_id _)
   have:=h3 x (by simp [hx])
   simp;omega
  unfold getA
  rw [if_neg hne,hput,hs]
  simp only [ne_eq,not_true_eq_false,if_false,e,h]
  simp
theorem sep_run (l:List UInt8) (h:∀ c ∈ l,128≤c.toNat) (h2:l≠[]→(l.getD 0 0).toNat≠128):sepHi (valSO l)=l:=by
 have key:∀ k,∀ l:List UInt8,l.length=k→(∀ c ∈ l,128≤c.toNat)→(l≠[]→(l.getD 0 0).toNat≠128)→sepHi (valSO l)=l∧(l≠[]→valSO l≠0):=by
  intro k
  induction k with
  | zero =>
    intro l hl _ _;have:l=[]:=List.length_eq_zero_iff.1 hl
    subst this;exact ⟨sepHi_zero,fun h=>absurd rfl h⟩
  | succ k ih =>
   intro l hl hb hh
   obtain ⟨q,c,rfl⟩:=ex_snoc (l:=l) (by intro e;rw [e] at hl;simp at hl)
   have hlq:q.length=k:=by simpa using hl
   have hc:=hb c (by simp)
   have hc2:=c.toNat_lt
   have hq:q≠[]→(q.getD 0 0).toNat≠128:=fun hne=>by
    have:=hh (by simp)
    have hp:0<q.length:=List.length_pos_iff.2 hne
    rwa [getD_app hp] at this
   obtain ⟨h5,h6⟩:=ih q hlq (fun d hd=>hb d (by simp [hd])) hq
   have hv:valSO (q++[c])≠0:=by
    rw [valSO_snoc]
    by_cases hq0:q=[]
    ·subst hq0
     have:=hh (by simp)
     simp at this
     show 0 * 128+_≠0
     omega
    ·have:=h6 hq0
     omega
   refine ⟨?_,fun _=>hv⟩
   rw [sepHi_pos hv,valSO_snoc,show (valSO q * 128+c.toNat % 128) / 128=valSO q by omega,h5]
   refine congrArg _ ?_
   rw [show (valSO q * 128+c.toNat % 128) % 128+128=c.toNat by omega,UInt8.ofNat_toNat]
 exact (key _ l rfl h h2).1
theorem sep_runL {l:List UInt8} (hne:l≠[]) (h:∀ i,i+1<l.length→128≤(l.getD i 0).toNat) (h1:(l.getD (l.length-1) 0).toNat<128) (h2:(l.getD 0 0).toNat≠128):sepL (valSO l)=l:=by
 obtain ⟨q,c,rfl⟩:=ex_snoc hne
 have hc:c.toNat<128:=by simpa [List.getD] using h1
 have hb:∀ d ∈ q,128≤d.toNat:=fun d hd=>by
  obtain ⟨i,hi,rfl⟩:=List.getElem_of_mem hd
  have:=h i (by simp;omega)
  simpa [List.getD,List.getElem?_append_left hi,hi] using this
 have hq:q≠[]→(q.getD 0 0).toNat≠128:=fun hne=>by
  have hp:0<q.length:=List.length_pos_iff.2 hne
  rwa [getD_app hp] at h2
 rw [sepL,valSO_snoc,show (valSO q * 128+c.toNat % 128) / 128=valSO q by omega,show (valSO q * 128+c.toNat % 128) % 128=c.toNat by omega,sep_run q hb hq,UInt8.ofNat_toNat]
theorem runLen_mid:∀ (l:List UInt8) (i:Nat),i+1<runLen l→128≤(l.getD i 0).toNat
 | [],i,h=>by simp [runLen] at h
 | c::l,i,h=>by
  rw [runLen] at h
  split at h
  ·omega
  ·cases i with
   | zero=>simp;omega
   | succ i=>simpa using runLen_mid l i (by omega)
theorem num_back {b:List UInt8} {most n:Nat} (hb:b≠[]) (h:numM (b.take (runLen b)) most=(n,0)):sepL n=b.take (runLen b)∧n≤most:=by
 unfold numM at h
 have hp:=runLen_pos hb
 have hle:=runLen_le b
 have hlen:(b.take (runLen b)).length=runLen b:=by simp;omega
 split at h
 ·simp at h
 split at h
 ·simp at h
 split at h
 ·simp at h
 simp at h
 subst h
 refine ⟨sep_runL (by intro e;rw [e] at hlen;simp at hlen;omega) (fun i hi=>?_) (by omega) (by assumption),by omega⟩
 rw [hlen] at hi
 have:=runLen_mid b i hi
 simpa [List.getD,List.getElem?_take,show i<runLen b by omega] using this
theorem nums_back:∀ (k:Nat) (b:List UInt8) (most:Nat) (l:List Nat),b.length≤k→numsM most b=(l,0)→(l.map sepL).flatten=b∧(∀ n ∈ l.drop 1,n≤2147483647)∧(∀ n,l.head?=some n→n≤most)∧(b≠[]→l≠[]):=by
 intro k
 induction k with
 | zero =>
  intro b most l hk h
  have:b=[]:=List.length_eq_zero_iff.1 (by omega)
  subst this
  rw [numsM] at h
  simp at h
  subst h
  simp
 | succ k ih =>
  intro b most l hk h
  by_cases hb:b=[]
  ·subst hb
   rw [numsM] at h
   simp at h
   subst h
   simp
  ·rw [numsM,dif_neg hb] at h
   split at h
   ·rename_i h1;simp at h;exact absurd h.2 h1
   rename_i h1
   split at h
   ·rename_i h2;simp at h;exact absurd h.2 h2
   rename_i h2
   have hp:=runLen_pos hb
   have hl:=List.length_pos_iff.2 hb
   obtain ⟨l',hl'⟩:∃ l',numsM 2147483647 (b.drop (runLen b))=(l',0):=⟨_,Prod.ext rfl (by simpa using h2)⟩
   obtain ⟨h3,h4,h5,_⟩:=ih (b.drop (runLen b)) 2147483647 l' (by simp;omega) hl'
   obtain ⟨n,hn⟩:∃ n,numM (b.take (runLen b)) most=(n,0):=⟨_,Prod.ext rfl (by simpa using h1)⟩
   obtain ⟨h6,h7⟩:=num_back hb hn
   rw [hl',hn] at h
   simp at h
   subst h
   refine ⟨?_,?_,?_,fun _=>by simp⟩
   ·rw [List.map_cons,List.flatten_cons,h3,h6,List.take_append_drop]
   ·intro m hm
    cases l' with
    | nil=>simp at hm
    | cons x r =>
     simp at hm
     rcases hm with rfl|hm
     ·exact h5 _ rfl
     ·exact h4 m (by simpa using hm)
   ·intro m hm;simp at hm;omega
theorem put_get {b:List UInt8} {l:List Int} (h:getA b=(l,0)):putA l=b∧rightA l=true:=by
 unfold getA at h
 split at h
 ·simp at h
 rename_i hb
 split at h
 ·rename_i h1;simp at h;exact absurd h.2 h1
 rename_i h1
 split at h
 ·simp at h
 rename_i h2
 simp at h
 have hr:rightA (arcsOf (numsM 2147483727 b).1)=true:=by simpa using h2
 obtain ⟨ns,hns⟩:∃ ns,numsM 2147483727 b=(ns,0):=⟨_,Prod.ext rfl (by simpa using h1)⟩
 obtain ⟨h3,h4,h5,h6⟩:=nums_back b.length b _ ns (Nat.le_refl _) hns
 rw [hns] at h hr
 subst h
 refine ⟨?_,hr⟩
 cases ns with
 | nil=>exact absurd rfl (h6 hb)
 | cons n r =>
  rw [← h3]
  show sepL _++_=_
  simp only [arcsOf,List.getD_cons_zero,List.getD_cons_succ,List.drop_succ_cons,List.drop_zero,List.map_cons,List.flatten_cons]
  refine congr (congrArg _ (congrArg _ ?_)) (congrArg _ ?_)
  ·omega
  ·rw [List.map_map]
   refine List.map_congr_left fun x _=>?_
   simp
theorem isFig_iff (c:UInt8):isFig c=(decide (48≤c.toNat) && decide (c.toNat≤57)):=rfl
theorem figM_back {p:List UInt8} (h:(figM p).2=0):dec (figM p).1=p:=by
 rw [figM_ref] at h ⊢
 split at h
 ·rename_i h1
  rw [if_pos h1]
  exact h1.2.2.2
 ·simp at h

def textL (l:List Int):List UInt8:=joinC 46 (l.map fun n=>dec n.toNat)
theorem dec_free (n:Nat):(46:UInt8) ∉ dec n:=fun h=>by
 have:=List.all_eq_true.1 (dec_figs n) _ h
 rw [isFig_iff] at this
 simp at this
theorem ok_dec {n:Int} (h0:0≤n) (h:n≤2147483647):okP (dec n.toNat)=true∧valP (dec n.toNat)=n:=by
 have h1:=figM_dec (n:=n.toNat) (by omega)
 have h2:=dec_len 9 n.toNat (by omega)
 simp only [okP,valP,h1]
 refine ⟨by simp;omega,by show ((n.toNat:Nat):Int)=n;omega⟩
theorem parse_text {l:List Int} (h:rightA l=true):parseM (textL l)=(l,0):=by
 obtain ⟨h1,h2,h3,h4,h5⟩:=right_at h
 have hs:splitC 46 (textL l)=l.map fun n=>dec n.toNat:=split_join (by cases l <;> simp at h1 ⊢) (fun p hp=>by
  obtain ⟨n,_,rfl⟩:=List.mem_map.1 hp
  exact dec_free _)
 have ho:((l.map fun n=>dec n.toNat).all okP)=true:=by
  rw [List.all_eq_true]
  intro p hp
  obtain ⟨n,hn,rfl⟩:=List.mem_map.1 hp
  exact (ok_dec (h3 n hn).1 (h3 n hn).2).1
 have hv:(l.map fun n=>dec n.toNat).map valP=l:=by
  rw [List.map_map]
  refine (List.map_congr_left fun n hn=>?_).trans (List.map_id _)
  exact (ok_dec (h3 n hn).1 (h3 n hn).2).2
 unfold parseM
 rw [hs,ho,hv,h]
 simp
theorem parse_right {s:List UInt8} {l:List Int} (h:parseM s=(l,0)):rightA l=true∧(splitC 46 s).all okP=true∧l=(splitC 46 s).map valP:=by
 unfold parseM at h
 split at h
 ·simp at h
 rename_i h1
 split at h
 ·simp at h
 rename_i h2
 simp at h
 subst h
 exact ⟨by simpa using h2,by simpa using h1,rfl⟩
theorem text_parse {s:List UInt8} {l:List Int} (h:parseM s=(l,0)):textL l=s:=by
 obtain ⟨h1,h2,rfl⟩:=parse_right h
 unfold textL
 rw [List.map_map]
 have:(splitC 46 s).map ((fun n=>dec n.toNat) ∘ valP)=splitC 46 s:=by
  refine (List.map_congr_left fun p hp=>?_).trans (List.map_id _)
  have h3:=List.all_eq_true.1 h2 p hp
  simp only [okP,Bool.and_eq_true,decide_eq_true_eq] at h3
  exact figM_back h3.1
 rw [this,join_split]
def cmpA:List Int→List Int→Int
 | [],[]=>0
 | [],_::_=>-1
 | _::_,[]=>1
 | a::l,b::r=>if a<b then -1 else if b<a then 1 else cmpA l r
def underA (x y:List Int):Bool:=decide (y.length≤x.length) && decide (x.take y.length=y)
end
section
def runsL (b:List UInt8):List (List UInt8):=if h:b=[] then [] else b.take (runLen b)::runsL (b.drop (runLen b))
termination_by b.length
decreasing_by
 have:=runLen_pos h
 have:=List.length_pos_iff.2 h
 simp;omega
def resL (most:Nat):List (List UInt8)→List (Nat×Nat)
 | []=>[]
 | r::t=>numM r most::resL 2147483647 t
def errL:List (Nat×Nat)→Nat
 | []=>0
 | x::t=>if x.2=0 then errL t else x.2
def putM (s:List UInt8):List UInt8:=if (parseM s).2=0 then putA (parseM s).1 else []
def resB (b:List UInt8):List (Nat×Nat):=resL 2147483727 (runsL b)
def textM (l:List Int):List UInt8×Nat:=if rightA l=true then (textL l,0) else ([],1)
def ogetM (b:List UInt8):List UInt8×Nat:=if (getA b).2=0 then (textL (getA b).1,0) else ([],(getA b).2)
theorem get_of_put {s:List UInt8} (h:(parseM s).2=0):ogetM (putA (parseM s).1)=(s,0):=by
 have hr:=(parse_right (s:=s) (l:=(parseM s).1) (by rw [← h])).1
 have ht:=text_parse (s:=s) (l:=(parseM s).1) (by rw [← h])
 unfold ogetM
 rw [get_put hr,if_pos rfl,ht]
end
end Am
end Go.Proofs.YthlpfjnkieaeeaaGreatDoor
namespace Go.Proofs.YthlpfjnkieaeeaaGreatDoor.Cal
set_option linter.unusedVariables false

structure D6 where
 y:Int
 m:Int
 d:Int
 h:Int
 mi:Int
 s:Int

def leapM (y:Int):Bool:=y % 4 == 0 && (y % 100 != 0 || y % 400 == 0)
def daysM (y m:Int):Int :=
 if m=4∨m=6∨m=9∨m=11 then 30 else if m=2 then (if leapM y then 29 else 28) else if m<1∨m>12 then 0 else 31
theorem days_le (y m:Int):0≤daysM y m∧daysM y m≤31:=by
 unfold daysM;repeat' split
 all_goals omega
theorem days_pos {y m d:Int} (h1:1≤d) (h2:d≤daysM y m):1≤m∧m≤12:=by
 unfold daysM at h2;repeat' split at h2
 all_goals omega
def bf (y:Int):Int:=365 * (y-1)+(y-1) / 4-(y-1) / 100+(y-1) / 400+306-719468
theorem bf_1970:bf 1970=0:=by decide
theorem bf_succ (y:Int):bf (y+1)=bf y+365+if leapM y then 1 else 0:=by
 have e:(leapM y=true)↔(y % 4=0∧(y % 100≠0∨y % 400=0)):=by simp [leapM]
 by_cases h:leapM y=true
 ·rw [if_pos h];rw [e] at h;unfold bf;omega
 ·rw [if_neg h];rw [e] at h;unfold bf;omega
theorem bf_mono {a b:Int} (h:a≤b):bf a≤bf b:=by unfold bf;omega
def cum (y m:Int):Int :=
 if m≤2 then 31 * (m-1) else (153 * (m-3)+2) / 5+59+(if leapM y then 1 else 0)
theorem cum_succ (y m:Int) (h1:1≤m) (h2:m≤12):cum y (m+1)=cum y m+daysM y m:=by
 have:m=1∨m=2∨m=3∨m=4∨m=5∨m=6∨m=7∨m=8∨m=9∨m=10∨m=11∨m=12:=by omega
 rcases this with h|h|h|h|h|h|h|h|h|h|h|h <;> subst h <;> simp [cum,daysM] <;> split <;> omega
theorem cum_13 (y:Int):bf y+cum y 13=bf (y+1):=by
 rw [bf_succ];simp [cum];split <;> omega
theorem cum_mono {y a b:Int} (h0:1≤a) (h:a≤b) (h1:b≤13):cum y a≤cum y b:=by
 unfold cum;repeat' split
 all_goals omega
theorem cum_bd (y m:Int) (h1:1≤m) (h2:m≤13):0≤cum y m∧cum y m≤366:=by
 unfold cum;repeat' split
 all_goals omega
def dn (y m d:Int):Int:=bf y+cum y m+d-1

theorem dn_prog (y m d:Int) (h1:1≤m) (h2:m≤12) :
  365 * (if m-3<0 then y-1 else y)+(if m-3<0 then y-1 else y) / 4-(if m-3<0 then y-1 else y) / 100+(if m-3<0 then y-1 else y) / 400+(153 * (if m-3<0 then m-3+12 else m-3)+2) / 5+d-1-719468=dn y m d:=by
 have e:(leapM y=true)↔(y % 4=0∧(y % 100≠0∨y % 400=0)):=by simp [leapM]
 by_cases h:m-3<0
 ·simp only [if_pos h]
  have:m=1∨m=2:=by omega
  rcases this with h|h <;> subst h <;> simp [dn,bf,cum] <;> omega
 ·simp only [if_neg h]
  unfold dn bf cum
  rw [if_neg (by omega)]
  by_cases hl:leapM y=true
  ·rw [if_pos hl];rw [e] at hl;omega
  ·rw [if_neg hl];rw [e] at hl;omega

def RightP (x:D6):Prop:=1970≤x.y∧x.y≤9999∧1≤x.d∧x.d≤daysM x.y x.m∧0≤x.h∧x.h<24∧0≤x.mi∧x.mi<60∧0≤x.s∧x.s<60
instance (x:D6):Decidable (RightP x):=by unfold RightP;infer_instance
def secM (x:D6):Int:=((dn x.y x.m x.d * 24+x.h) * 60+x.mi) * 60+x.s

theorem dec_c (n:Int) (h0:0≤n) (h1:n<146097):∃ c r:Int,n=36524 * c+r∧0≤c∧c≤3∧0≤r∧(r<36524∨(c=3∧r=36524)):=by
 by_cases h:n=146096
 ·exact ⟨3,36524,by omega,by omega,by omega,by omega,.inr ⟨rfl,rfl⟩⟩
 ·exact ⟨n / 36524,n % 36524,by omega,by omega,by omega,by omega,.inl (by omega)⟩
theorem dec_k (v:Int) (h0:0≤v) (h1:v<1461):∃ k e:Int,v=365 * k+e∧0≤k∧k≤3∧0≤e∧(e<365∨(k=3∧e=365)):=by
 by_cases h:v=1460
 ·exact ⟨3,365,by omega,by omega,by omega,by omega,.inr ⟨rfl,rfl⟩⟩
 ·exact ⟨v / 365,v % 365,by omega,by omega,by omega,by omega,.inl (by omega)⟩
theorem div_1460 (c q v:Int) (hc:0≤c) (hc3:c≤3) (hq:0≤q) (hq24:q≤24) (hv:0≤v) (hv2:v≤1460):∃ z,(36524 * c+1461 * q+v) / 1460=25 * c+q+z∧((z=0∧24 * c+q+v<1460)∨(z=1∧1460≤24 * c+q+v)):=by
 by_cases h:24 * c+q+v<1460
 ·exact ⟨0,by omega,.inl ⟨rfl,h⟩⟩
 ·exact ⟨1,by omega,.inr ⟨rfl,by omega⟩⟩
theorem div_cent (c r:Int) (hc:0≤c) (hc3:c≤3) (h0:0≤r) (h:r<36524∨(c=3∧r=36524)):(36524 * c+r) / 36524-(36524 * c+r) / 146096=c:=by
 rcases h with h|⟨rfl,rfl⟩
 ·have e1:(36524 * c+r) / 36524=c:=by omega
  have e2:(36524 * c+r) / 146096=0:=by omega
  omega
 ·decide
theorem year_lin (c q k e z:Int) (hc:0≤c) (hc3:c≤3) (hq:0≤q) (hq24:q≤24) (hk0:0≤k) (hk3:k≤3) (he0:0≤e) (he:e<365∨(k=3∧e=365)) (hz:(z=0∧24 * c+q+(365 * k+e)<1460)∨(z=1∧1460≤24 * c+q+(365 * k+e))) :
  ((36524 * c+1461 * q+(365 * k+e))-(25 * c+q+z)+c) / 365=100 * c+4 * q+k:=by
 have h1:0≤e-z∧e-z<365:=by
  rcases hz with ⟨rfl,hz⟩|⟨rfl,hz⟩ <;> rcases he with he|⟨rfl,rfl⟩ <;> omega
 have h2:(36524 * c+1461 * q+(365 * k+e))-(25 * c+q+z)+c=(100 * c+4 * q+k) * 365+(e-z):=by omega
 rw [h2]
 omega
theorem arr4 (a b c d:Int):a-b+c-d=a-b+(c-d):=by omega
theorem year_up (c q k e:Int) (hc:0≤c) (hc3:c≤3) (hq:0≤q) (hq24:q≤24) (hk0:0≤k) (hk3:k≤3) (he:e<365∨(k=3∧e=365)) (hr:1461 * q+(365 * k+e)<36524∨c=3) :
  36524 * c+(1461 * q+(365 * k+e))<365 * (100 * c+4 * q+k+1)+(100 * c+4 * q+k+1) / 4-(100 * c+4 * q+k+1) / 100+(if 100 * c+4 * q+k=399 then 1 else 0):=by
 by_cases hk:k=3
 ·subst hk
  have e10:(100 * c+4 * q+3+1) / 4=25 * c+q+1:=by clear he hr;omega
  rw [e10]
  have he':e≤365:=by omega
  clear he
  by_cases hq':q=24
  ·subst hq'
   have e11:(100 * c+4 * 24+3+1) / 100=c+1:=by clear hr;omega
   rw [e11]
   split
   ·clear hr;omega
   ·have:¬ c=3:=by rename_i h;omega
    have hr':=hr.resolve_right this
    clear hr
    omega
  ·have e11:(100 * c+4 * q+3+1) / 100=c:=by clear hr;omega
   rw [e11]
   clear hr
   split <;> omega
 ·have he':e<365:=by
   rcases he with h|h
   ·exact h
   ·exact absurd h.1 hk
  clear he hr
  have e10:(100 * c+4 * q+k+1) / 4=25 * c+q:=by omega
  have e11:(100 * c+4 * q+k+1) / 100=c:=by omega
  rw [e10,e11]
  split <;> omega
def yr (n:Int):Int:=(n-n / 1460+n / 36524-n / 146096) / 365
theorem year_eq {n c r q v k e:Int} (hn:n=36524 * c+r) (hc:0≤c) (hc3:c≤3) (hr0:0≤r) (hr:r<36524∨(c=3∧r=36524)) (hr2:r=1461 * q+v) (hq:0≤q) (hq24:q≤24) (hv:0≤v) (hv2:v<1461) (hv3:v=365 * k+e) (hk0:0≤k) (hk3:k≤3) (he0:0≤e) (he:e<365∨(k=3∧e=365)):yr n=100 * c+4 * q+k:=by
 obtain ⟨z,hz,hz2⟩:=div_1460 c q v hc hc3 hq hq24 hv (Int.le_of_lt_add_one hv2)
 have e1:=div_cent c r hc hc3 hr0 hr
 show (n-n / 1460+n / 36524-n / 146096) / 365=_
 have e3:n / 36524-n / 146096=c:=by rw [hn];exact e1
 have e4:n / 1460=25 * c+q+z:=by rw [hn,hr2,← Int.add_assoc];exact hz
 have e5:=year_lin c q k e z hc hc3 hq hq24 hk0 hk3 he0 he (by rw [← hv3];exact hz2)
 rw [arr4,e3,e4,hn,hr2,hv3,← Int.add_assoc]
 exact e5
theorem dec_q (r:Int) (h0:0≤r) (h1:r≤36524):∃ q v:Int,r=1461 * q+v∧0≤q∧q≤24∧0≤v∧v<1461:=⟨r / 1461,r % 1461,by omega,by omega,by omega,by omega,by omega⟩
theorem year_lo {c q k:Int} (hc:0≤c) (hc3:c≤3) (hq:0≤q) (hq24:q≤24) (hk0:0≤k) (hk3:k≤3):0≤100 * c+4 * q+k∧100 * c+4 * q+k≤399∧365 * (100 * c+4 * q+k)+(100 * c+4 * q+k) / 4-(100 * c+4 * q+k) / 100=36524 * c+1461 * q+365 * k:=by
 have e7:(100 * c+4 * q+k) / 4=25 * c+q:=by omega
 have e8:(100 * c+4 * q+k) / 100=c:=by clear e7;omega
 refine ⟨by clear e7 e8;omega,by clear e7 e8;omega,?_⟩
 rw [e7,e8]
 clear e7 e8
 omega
theorem year_of (n:Int) (h0:0≤n) (h1:n<146097) :
  0≤yr n∧yr n≤399∧365 * yr n+yr n / 4-yr n / 100≤n∧n<365 * (yr n+1)+(yr n+1) / 4-(yr n+1) / 100+(if yr n=399 then 1 else 0):=by
 obtain ⟨c,r,hn,hc,hc3,hr0,hr⟩:=dec_c n h0 h1
 have hr1:r≤36524:=by
  rcases hr with h|h
  ·exact Int.le_of_lt h
  ·exact Int.le_of_eq h.2
 obtain ⟨q,v,hr2,hq,hq24,hv,hv2⟩:=dec_q r hr0 hr1
 obtain ⟨k,e,hv3,hk0,hk3,he0,he⟩:=dec_k v hv hv2
 rw [year_eq hn hc hc3 hr0 hr hr2 hq hq24 hv hv2 hv3 hk0 hk3 he0 he]
 have hup:=year_up c q k e hc hc3 hq hq24 hk0 hk3 he (by
  rw [← hv3,← hr2]
  rcases hr with h|h
  ·exact .inl h
  ·exact .inr h.1)
 rw [← hv3,← hr2,← hn] at hup
 obtain ⟨l1,l2,l3⟩:=year_lo hc hc3 hq hq24 hk0 hk3
 refine ⟨l1,l2,?_,hup⟩
 rw [l3]
 clear hup l1 l2 l3 hr he
 omega

theorem n2_bd (r:Int) (h0:0≤r) (h1:r<146097):0≤r-(365 * yr r+yr r / 4-yr r / 100)∧r-(365 * yr r+yr r / 4-yr r / 100)≤365:=by
 obtain ⟨y0,y1,y2,y3⟩:=year_of r h0 h1
 generalize yr r=y at *
 split at y3 <;> omega
structure Parts where
 ages:Int
 y:Int
 m:Int
 d:Int
def partsM (N:Int):Parts :=
 let n:=N+719468
 let r:=n % 146097
 let y:=yr r
 let n2:=r-(365 * y+y / 4-y / 100)
 let m:=(5 * n2+2) / 153
 ⟨n / 146097,y,m,n2-(153 * m+2) / 5+1⟩
def yOf (N:Int):Int:=(partsM N).ages * 400+(partsM N).y+if (partsM N).m+3>12 then 1 else 0
def mOf (N:Int):Int:=if (partsM N).m+3>12 then (partsM N).m+3-12 else (partsM N).m+3
def dOf (N:Int):Int:=(partsM N).d

theorem succ_4 (y:Int):(y+1) / 4=y / 4+if (y+1) % 4=0 then 1 else 0:=by split <;> omega
theorem succ_100 (y:Int):(y+1) / 100=y / 100+if (y+1) % 100=0 then 1 else 0:=by split <;> omega
theorem parts_bd (N:Int) (h0:0≤N) (h1:N≤2932896):4≤(partsM N).ages∧(partsM N).ages≤24∧0≤(partsM N).y∧(partsM N).y≤399∧0≤(partsM N).m∧(partsM N).m≤11∧1≤(partsM N).d∧(partsM N).d≤31 ∧
  365 * (partsM N).y+(partsM N).y / 4-(partsM N).y / 100+146097 * (partsM N).ages+(153 * (partsM N).m+2) / 5+(partsM N).d-1=N+719468 ∧
  ((partsM N).m=11→(partsM N).d≤28+(if ((partsM N).y+1) % 4=0∧(((partsM N).y+1) % 100≠0∨((partsM N).y+1) % 400=0) then 1 else 0))∧(((partsM N).m=1∨(partsM N).m=3∨(partsM N).m=6∨(partsM N).m=8)→(partsM N).d≤30):=by
 obtain ⟨n,hn⟩:∃ n,n=N+719468:=⟨_,rfl⟩
 obtain ⟨r,hr⟩:∃ r,r=n % 146097:=⟨_,rfl⟩
 have hyo:=year_of r (by omega) (by omega)
 obtain ⟨y,hy⟩:∃ y,y=yr r:=⟨_,rfl⟩
 rw [← hy] at hyo
 obtain ⟨y0,y1,y2,y3⟩:=hyo
 obtain ⟨n2,hn2⟩:∃ n2,n2=r-(365 * y+y / 4-y / 100):=⟨_,rfl⟩
 obtain ⟨m,hm⟩:∃ m,m=(5 * n2+2) / 153:=⟨_,rfl⟩
 have e:partsM N=⟨n / 146097,y,m,n2-(153 * m+2) / 5+1⟩:=by
  simp only [partsM,← hn,← hr,← hy,← hn2,← hm]
 rw [e]
 simp only
 have hlen:0≤n2∧n2≤365:=by split at y3 <;> omega
 have hlast:n2=365→((y+1) % 4=0∧((y+1) % 100≠0∨(y+1) % 400=0)):=by
  intro h
  rw [succ_4,succ_100] at y3
  by_cases h4:(y+1) % 4=0
  ·refine ⟨h4,?_⟩
   rw [if_pos h4] at y3
   by_cases h100:(y+1) % 100=0
   ·rw [if_pos h100] at y3
    by_cases h399:y=399
    ·subst h399;exact .inr (by decide)
    ·rw [if_neg h399] at y3
     omega
   ·exact .inl h100
  ·rw [if_neg h4] at y3
   by_cases h399:y=399
   ·subst h399;exact absurd (by decide) h4
   ·rw [if_neg h399] at y3
    split at y3 <;> omega
 have hm':0≤m∧m≤11:=by omega
 refine ⟨by omega,by omega,y0,y1,hm'.1,hm'.2,by omega,by omega,by omega,?_,by omega⟩
 intro h11
 subst h11
 split
 ·omega
 ·rename_i hno
  have:n2≠365:=fun h=>hno (hlast h)
  omega

theorem leap_400 (A Y:Int):leapM (A * 400+Y)=leapM Y:=by
 unfold leapM
 have e4:(A * 400+Y) % 4=Y % 4:=by omega
 have e100:(A * 400+Y) % 100=Y % 100:=by omega
 have e400:(A * 400+Y) % 400=Y % 400:=by omega
 rw [e4,e100,e400]
theorem day_ok (y M D:Int) (m1:0≤M) (m2:M≤11) (d2:D≤31) (h11:M=11→D≤28+if leapM y then 1 else 0) (h30:M=1∨M=3∨M=6∨M=8→D≤30):D≤daysM y (if M+3>12 then M+3-12 else M+3):=by
 by_cases e11:M=11
 ·subst e11
  have:=h11 rfl
  rw [if_pos (by decide)]
  simp only [daysM]
  rw [if_neg (by decide),if_pos (by decide)]
  split at this <;> (rename_i hl;simp [hl];omega)
 ·clear h11
  have hne:(if M+3>12 then M+3-12 else M+3)≠2:=by split <;> omega
  have hr:¬ ((if M+3>12 then M+3-12 else M+3)<1∨(if M+3>12 then M+3-12 else M+3)>12):=by split <;> omega
  have h4:((if M+3>12 then M+3-12 else M+3)=4∨(if M+3>12 then M+3-12 else M+3)=6∨(if M+3>12 then M+3-12 else M+3)=9∨(if M+3>12 then M+3-12 else M+3)=11)→(M=1∨M=3∨M=6∨M=8):=by split <;> omega
  generalize (if M+3>12 then M+3-12 else M+3)=q at *
  unfold daysM
  by_cases hq:q=4∨q=6∨q=9∨q=11
  ·rw [if_pos hq];exact h30 (h4 hq)
  ·rw [if_neg hq,if_neg hne,if_neg hr];exact d2
theorem of_right (N:Int) (h0:0≤N) (h1:N≤2932896):1970≤yOf N∧yOf N≤9999∧1≤dOf N∧dOf N≤daysM (yOf N) (mOf N)∧dn (yOf N) (mOf N) (dOf N)=N:=by
 obtain ⟨a1,a2,y1,y2,m1,m2,d1,d2,hN,h11,h30⟩:=parts_bd N h0 h1
 obtain ⟨A,Y,M,D,hp⟩:∃ A Y M D,partsM N=⟨A,Y,M,D⟩:=⟨_,_,_,_,rfl⟩
 have hy:yOf N=A * 400+Y+if M+3>12 then 1 else 0:=by simp only [yOf,hp]
 have hm:mOf N=if M+3>12 then M+3-12 else M+3:=by simp only [mOf,hp]
 have hd:dOf N=D:=by simp only [dOf,hp]
 rw [hp] at a1 a2 y1 y2 m1 m2 d1 d2 hN h11 h30
 simp only at a1 a2 y1 y2 m1 m2 d1 d2 hN h11 h30
 rw [hy,hm,hd]
 have key:dn (A * 400+Y+if M+3>12 then 1 else 0) (if M+3>12 then M+3-12 else M+3) D=N:=by
  rw [← dn_prog _ _ _ (by split <;> omega) (by split <;> omega)]
  have e4:(A * 400+Y) / 4=100 * A+Y / 4:=by clear h11 h30 hN;omega
  have e100:(A * 400+Y) / 100=4 * A+Y / 100:=by clear h11 h30 hN e4;omega
  have e400:(A * 400+Y) / 400=A:=by clear h11 h30 hN e4 e100;omega
  by_cases h:M+3>12
  ·simp only [if_pos h]
   rw [if_pos (by omega),if_pos (by omega),show A * 400+Y+1-1=A * 400+Y by omega,e4,e100,e400,show M+3-12-3+12=M by omega]
   clear h11 h30 e4 e100 e400
   omega
  ·simp only [if_neg h]
   rw [if_neg (by omega),if_neg (by omega),Int.add_zero,e4,e100,e400,show M+3-3=M by omega]
   clear h11 h30 e4 e100 e400
   omega
 have hday:D≤daysM (A * 400+Y+if M+3>12 then 1 else 0) (if M+3>12 then M+3-12 else M+3):=by
  refine day_ok _ M D m1 m2 d2 (fun h=>?_) h30
  have:=h11 h
  subst h
  have e:(A * 400+Y+if (11:Int)+3>12 then 1 else 0)=A * 400+(Y+1):=by simp;omega
  rw [e,leap_400]
  simpa [leapM] using this
 refine ⟨?_,?_,d1,hday,key⟩
 ·rcases Int.lt_or_le (A * 400+Y+if M+3>12 then 1 else 0) 1970 with h|h
  ·have e1:=days_pos d1 hday
   have e2:=cum_succ (A * 400+Y+if M+3>12 then 1 else 0) _ e1.1 e1.2
   have e3:=cum_mono (y:=A * 400+Y+if M+3>12 then 1 else 0) (a:=(if M+3>12 then M+3-12 else M+3)+1) (b:=13) (by omega) (by omega) (by omega)
   have e4:=cum_13 (A * 400+Y+if M+3>12 then 1 else 0)
   have e5:=bf_mono (a:=(A * 400+Y+if M+3>12 then 1 else 0)+1) (b:=1970) (by omega)
   have e6:=bf_1970
   unfold dn at key
   omega
  ·exact h
 ·rcases Int.lt_or_le 9999 (A * 400+Y+if M+3>12 then 1 else 0) with h|h
  ·have e1:=days_pos d1 hday
   have e3:=cum_bd (A * 400+Y+if M+3>12 then 1 else 0) _ e1.1 (by omega)
   have e5:=bf_mono (a:=10000) (b:=A * 400+Y+if M+3>12 then 1 else 0) (by omega)
   have e6:bf 10000=2932897:=by decide
   unfold dn at key
   omega
  ·exact h

def inT (t:Int):Prop:=0≤t∧t≤253402300799
instance (t:Int):Decidable (inT t):=by unfold inT;infer_instance
def D6.zero:D6:=⟨0,0,0,0,0,0⟩
def ofR6 (t:Int):D6:=⟨yOf (t / 86400),mOf (t / 86400),dOf (t / 86400),t % 86400 / 3600,t % 86400 % 3600 / 60,t % 86400 % 60⟩
def ofM (t:Int):D6:=if inT t then ofR6 t else D6.zero
def ofE (t:Int):Nat:=if inT t then 0 else 1
theorem ofR_right {t:Int} (h:inT t):RightP (ofR6 t)∧secM (ofR6 t)=t:=by
 obtain ⟨h0,h1⟩:=h
 obtain ⟨p1,p2,p3,p4,p5⟩:=of_right (t / 86400) (by omega) (by omega)
 refine ⟨⟨p1,p2,p3,p4,?_⟩,?_⟩
 ·simp only [ofR6];omega
 ·show ((dn (yOf (t / 86400)) (mOf (t / 86400)) (dOf (t / 86400)) * 24+t % 86400 / 3600) * 60+t % 86400 % 3600 / 60) * 60+t % 86400 % 60=t
  rw [p5];omega
end Go.Proofs.YthlpfjnkieaeeaaGreatDoor.Cal
namespace Go.Proofs.YthlpfjnkieaeeaaGreatDoor
set_option linter.unusedVariables false
namespace Am
open Go.RowKit
section
variable {gs:List Nat} [Ok9 gs]
open Go.RowKit Cal
set_option linter.unusedVariables false

def dF (x:D6) (i:Nat):CV:=match i with|0=>.c (.int .i64 x.y)|1=>.c (.int .i64 x.m)|2=>.c (.int .i64 x.d)|3=>.c (.int .i64 x.h)|4=>.c (.int .i64 x.mi)|_=>.c (.int .i64 x.s)
def dateC (x:D6):CV:=.agg 6 (dF x)

theorem is_ac {g:List Nat} (t:Int):ACp g Tryz.prog 255 [.c (.int .i64 t)] (.c (.bool (decide (inT t)))):=by
 refine ac_of 9 Tryz.func255 rfl rfl rfl (fun al w0 F0 St0=>?_)
 refine jU 1216516 ?_;refine jqsp 5 (fun g27=>?_) fun g27=>?_
 ·refine jU 51800021 ?_
  refine jR (jrt (hv:=?_))
  refine cB ?_
  (simp [inT, *];done)
 refine jU 5150044 ?_
 refine jR (jrt (hv:=?_))
 refine cB ?_
 (simp [inT, *];done)
set_option maxHeartbeats 1000000 in
theorem of6_ac (t:Int):ACp gs Tryz.prog 221 [.c (.int .i64 t)] (.tup 2 (fl [dateC (ofM t),.err (ofE t)])):=by
 refine ac_of 84 Tryz.func221 rfl rfl rfl (fun al w0 F0 St0=>?_)
 refine jcr ?_
 refine jqe (jeal (n:=6) zr270 rfl fun p1=>?_)
 refine jU 16751 ?_
 refine jqe (jecP (is_ac _) ?_)
 refine jU 530 ?_;refine jcc (fun h56=>?_) fun h56=>?_
 ·refine jcs ?_;refine jcdZ (.rd 0 (.rd 1 (.one 2 (.rd 3 .done)))) ?_;refine jzq (rd_build (n:=6) rfl zr270 pl270 rfl rfl) ?_;refine jzq (jrde 0) ?_
  refine jzm (jmst 6 ?_)
  refine jU 8700000400000 ?_
  refine jR (jtr (jrt (hres:=res_2 rfl (javA 6) javt) (hv:=?_)))
  unfold ofM ofE
  rw [if_neg h56,if_neg h56]
  exact cT (CEnt.agg6 cZ cZ cZ cZ cZ cZ) cZ
 refine jU 810 ?_
 have hr:=Decidable.not_not.1 h56
 obtain ⟨r1,r2⟩:=id hr
 refine jU 51960000016 ?_
 obtain ⟨n,hn⟩:∃ n,n=t / 86400+719468:=⟨_,rfl⟩
 have n0:719468≤n∧n≤3652364:=by omega
 refine jE (weaken 4 (.c (.int .i64 n)) (cI hn.symm)) ?_;refine jU 511000000165160000016 ?_
 obtain ⟨r,hrr⟩:∃ r,r=n % 146097:=⟨_,rfl⟩
 have r0:0≤r∧r<146097:=by omega
 refine jE (weaken 4 (.c (.int .i64 r)) (cI hrr.symm)) ?_;refine jU 5160000096000001960000019600000116 ?_
 obtain ⟨y,hy⟩:∃ y,y=yr r:=⟨_,rfl⟩
 have y0:0≤y∧y≤399:=by rw [hy];exact ⟨(year_of r r0.1 r0.2).1,(year_of r r0.1 r0.2).2.1⟩
 refine jE (weaken 6 (.c (.int .i64 y)) (cI (by rw [hy];rfl))) ?_;refine jU 51996000001960000019116 ?_
 obtain ⟨n2,hn2⟩:∃ n2,n2=r-(365 * y+y / 4-y / 100):=⟨_,rfl⟩
 have q0:0≤n2∧n2≤365:=by rw [hn2,hy];exact n2_bd r r0.1 r0.2
 refine jE (weaken 4 (.c (.int .i64 n2)) (cI hn2.symm)) ?_;refine jU 516000009916 ?_
 obtain ⟨m,hm⟩:∃ m,m=(5 * n2+2) / 153:=⟨_,rfl⟩
 have m0:0≤m∧m≤11:=by omega
 refine jE (weaken 7 (.c (.int .i64 m)) (cI hm.symm)) ?_;refine jU 9960000099119191916 ?_;refine jq (rd_build (n:=6) rfl zr270 pl270 rfl rfl) ?_
 refine jqe (jeal (n:=6) zr270 rfl fun p2=>?_)
 refine jqm (jmst 6 ?_)
 refine jU 5250100675 ?_;refine jcc (fun h67=>?_) fun h67=>?_
 rotate_left
 ·refine jU 810 ?_
  have hp:partsM (t / 86400)=⟨n / 146097,y,m,n2-(153 * m+2) / 5+1⟩:=by
   simp only [partsM,← hn,← hrr,← hy,← hn2,← hm]
  have ho:ofM t=ofR6 t:=if_pos hr
  have he:ofE t=0:=if_pos hr
  refine jU 500000010000001600000100000016000001651100000016 ?_
  refine jqm (jmst 1 ?_)
  refine jU 7000000 ?_
  refine jqm (jmst 1 ?_)
  refine jU 6000000 ?_
  refine jqm (jmst 1 ?_)
  refine jU 65 ?_;refine jqo (jrdoA 6) ?_
  refine jqm (jmst 6 ?_)
  refine jU 51 ?_
  refine jR (jrt (hres:=res_2 rfl (javA 6) javt) (hv:=?_))
  rw [ho,he]
  refine cT (CEnt.agg6 (cI ?_) (cI ?_) (cI ?_) (cI ?_) (cI ?_) (cI ?_)) CEnt.nil
  ·show _=yOf (t / 86400)
   simp only [yOf,hp]
   rw [if_neg h67,Int.add_zero]
  ·show _=mOf (t / 86400)
   simp only [mOf,hp]
   rw [if_neg h67]
  ·show _=dOf (t / 86400)
   simp only [dOf,hp]
  ·rfl
  ·rfl
  ·show _=t % 86400 % 60
   rfl
 refine jU 1009501006 ?_
 refine jqm (jmst 1 ?_)
 refine jU 90950902005 ?_
 refine jqm (jmst 1 ?_)
 refine jU 85 ?_
 have hp:partsM (t / 86400)=⟨n / 146097,y,m,n2-(153 * m+2) / 5+1⟩:=by
  simp only [partsM,← hn,← hrr,← hy,← hn2,← hm]
 have ho:ofM t=ofR6 t:=if_pos hr
 have he:ofE t=0:=if_pos hr
 refine jU 500000010000001600000100000016000001651100000016 ?_
 refine jqm (jmst 1 ?_)
 refine jU 7000000 ?_
 refine jqm (jmst 1 ?_)
 refine jU 6000000 ?_
 refine jqm (jmst 1 ?_)
 refine jU 65 ?_;refine jqo (jrdoA 6) ?_
 refine jqm (jmst 6 ?_)
 refine jU 51 ?_
 refine jR (jrt (hres:=res_2 rfl (javA 6) javt) (hv:=?_))
 rw [ho,he]
 refine cT (CEnt.agg6 (cI ?_) (cI ?_) (cI ?_) (cI ?_) (cI ?_) (cI ?_)) CEnt.nil
 ·show _=yOf (t / 86400)
  simp only [yOf,hp]
  rw [if_pos h67]
 ·show _=mOf (t / 86400)
  simp only [mOf,hp]
  rw [if_pos h67]
 ·show _=dOf (t / 86400)
  simp only [dOf,hp]
 ·rfl
 ·rfl
 ·show _=t % 86400 % 60
  rfl
end
section
variable {gs:List Nat} [Ok9 gs]
open Go.RowKit Cal
set_option linter.unusedVariables false

def figc (n p:Int):UInt8:=UInt8.ofNat (48+n / p % 10).toNat
def figL (n:Int) (ps:List Int):List UInt8:=ps.map (figc n)
theorem figc_nat {n p:Int} (h0:0≤n / p):((figc n p).toNat:Int)=48+n / p % 10:=by
 unfold figc
 rw [UInt8.toNat_ofNat']
 omega
theorem figL_succ {n:Int} {ps:List Int} {l:List UInt8} {i:Nat} (h:i<ps.length):l++figL n (ps.take (i+1))=l++figL n (ps.take i)++[figc n (ps.getD i 0)]:=by
 have e:ps.take (i+1)=ps.take i++[ps.getD i 0]:=by
  rw [List.take_succ_eq_append_getElem h]
  simp [List.getD,h]
 rw [e,figL,List.map_append,← List.append_assoc]
 rfl
theorem figures_ac {gs:List Nat} (g:Option Nat) (l:List UInt8) (n:Int) (ps:List Int) (h0:0≤n) (h9:n≤9223372036854775807) (hp:∀ p ∈ ps,1≤p) (hl:l.length+ps.length≤140737488355328) :
  AC gs Tryz.prog 222 [(g,.blk l.length (byF l))] [.os 0 g 0 l.length 1,.c (.int .i64 n),isC ps] (OwnQ (l++figL n ps).length 1 (l++figL n ps).length (byF (l++figL n ps))):=by
 refine ac_of 26 Tryz.func222 rfl rfl rfl (fun al w0 F0 St0=>?_)
 refine jU 20513167516 ?_;refine l_loop (α:=Nat×Option Nat) [0,8,11,12,13,14,15,16,17,18,19,20,21,22,23,24] (fun (i,g)=>[(0,.os 0 g 0 (l++figL n (ps.take i)).length 1),(11,.c (.int .i64 (i:Nat)))]) (fun (i,g)=>[(g,.blk (l++figL n (ps.take i)).length (byF (l++figL n (ps.take i))))]) (fun i=>i.1≤ps.length) (fun i=>ps.length-i.1) ((0,g)) ?_ (fun _=>rfl) ?_ ?_ ?_
 ·simp
 ·simp only [List.take_zero,figL,List.map_nil,List.append_nil]
  (repeat (first|exact EntE.nil|refine EntE.cons cZ ?_))
 ·show HEnt [(g,Res.blk l.length (byF l))] [(g,.blk (l++figL n (ps.take 0)).length (byF (l++figL n (ps.take 0))))]
  simp only [List.take_zero,figL,List.map_nil,List.append_nil]
  exact .same .nil
 ·rintro ⟨i,g'⟩ (hi:i≤ps.length)
  refine jU 7526 ?_;refine jcc (fun h91=>?_) fun h91=>?_
  rotate_left
  ·refine jU 7000511684000200020006000 ?_
   have e:ps.take i=ps:=List.take_of_length_le (by omega)
   exact end_O 0 (.inl rfl) (res_1 rfl (arv_tmp rfl)) rfl (by rw [e]) (by rw [e];exact Nat.le_refl _) (fun _=>by rw [e]) (fun _ _=>by rw [e];exact cZ)
  refine jU 51607006207810 ?_
  have hlt:i<ps.length:=by omega
  have hpi:1≤ps.getD i 0:=by
   rw [List.getD_eq_getElem?_getD,List.getElem?_eq_getElem hlt]
   exact hp _ (List.getElem_mem hlt)
  have hq0:0≤n / ps.getD i 0:=Int.ediv_nonneg h0 (by omega)
  have hq1:n / ps.getD i 0≤n:=Int.ediv_le_self _ h0
  have hle:(figL n (ps.take i)).length=i:=by simp [figL];omega
  refine jU 80000091000000600000111200 ?_
  refine jqe (jebl 1 1 zr5 fun p1=>?_)
  refine jqm (m_appendB (l2:=[figc n (ps.getD i 0)]) rfl rfl rfl (Nat.le_refl _) (fun _ _=>cZ) (src_os rfl (.inl rfl) (by decide)) rfl (hh_bytes (.cons (cI ((by rw [figc_nat hq0]))) .nil)) Tryz.underlying22 nu22 sz5 zr5 by5 rfl (by (simp;omega)) (leaf_fl rfl rfl) rfl rfl (fun p2=>?_))
  refine jU 8519200840051 ?_
  refine jlend ((i+1,p2)) ?_ ?_ (h5:=?_) (h7:=?_)
  ·exact hlt
  ·omega
  ·simp only [figL_succ hlt]
   (repeat (first|exact EntE.nil|refine EntE.cons cZ ?_))
  ·simp only [figL_succ hlt]
   exact .same .nil

def bodyL (x:D6):List UInt8:=figL x.y [1000,100,10,1]++figL x.m [10,1]++figL x.d [10,1]++figL x.h [10,1]++figL x.mi [10,1]++figL x.s [10,1]++[90]
def putF (x:D6):List Int:=[x.m,x.d,x.h,x.mi,x.s]
def putL6 (x:D6) (i:Nat):List UInt8:=figL x.y [1000,100,10,1]++((putF x).take i).flatMap fun n=>figL n [10,1]
theorem putL_succ {x:D6} {i:Nat} (h:i<(putF x).length):putL6 x (i+1)=putL6 x i++figL ((putF x).getD i 0) [10,1]:=by
 have e:(putF x).take (i+1)=(putF x).take i++[(putF x).getD i 0]:=by
  rw [List.take_succ_eq_append_getElem h]
  simp [List.getD,h]
 unfold putL6
 rw [e,List.flatMap_append,← List.append_assoc]
 simp
theorem putL6_len (x:D6) {i:Nat} (h:i≤5):(putL6 x i).length=4+2 * i:=by
 rcases i with _|_|_|_|_|_|i <;> simp [putL6,putF,figL] <;> omega
theorem of_rightM {t:Int} (h:inT t):RightP (ofM t):=by
 rw [ofM,if_pos h];exact (ofR_right h).1
theorem putF_bd {x:D6} (h:RightP x) {i:Nat} (hi:i<(putF x).length):0≤(putF x).getD i 0∧(putF x).getD i 0≤99:=by
 obtain ⟨q1,q2,q3,q4,q5,q6,q7,q8,q9,q10⟩:=id h
 have:=days_le x.y x.m
 have qm:=days_pos q3 q4
 rcases i with _|_|_|_|_|i
 ·show 0≤x.m∧x.m≤99;omega
 ·show 0≤x.d∧x.d≤99;omega
 ·show 0≤x.h∧x.h≤99;omega
 ·show 0≤x.mi∧x.mi≤99;omega
 ·show 0≤x.s∧x.s≤99;omega
 ·simp [putF] at hi;omega
theorem putL_all (x:D6):putL6 x 5++[90]=bodyL x:=by simp [putL6,putF,bodyL]
theorem put_ac (t:Int):ACp gs Tryz.prog 174 [.c (.int .i64 t)] (.tup 2 (fl [bsC (if inT t then bodyL (ofM t) else []),.err (ofE t)])):=by
 refine ac_of 45 Tryz.func174 rfl rfl rfl (fun al w0 F0 St0=>?_)
 refine jU 165116 ?_
 refine jqe (jecP (of6_ac t) ?_)
 refine jU 9009001 ?_
 refine jqe (jeal (n:=6) zr270 rfl fun p1=>?_)
 refine jqm (jmst 6 ?_)
 refine jU 550000016751 ?_;refine jcc (fun h100=>?_) fun h100=>?_
 ·refine jU 51116 ?_
  refine jR (jtr (jrt (hv:=?_)))
  have hn:¬ inT t:=fun h=>h100 (if_pos h)
  rw [if_neg hn]
  exact cT cN cZ
 refine jU 810 ?_
 have hp0:[]++figL (ofM t).y [1000,100,10,1]=putL6 (ofM t) 0:=by simp [putL6]
 have q0:inT t:=by unfold ofE at h100;by_cases h:inT t <;> simp_all
 have hr:RightP (ofM t):=of_rightM q0
 obtain ⟨y1,y2,_⟩:=id hr
 have q1:0≤(ofM t).y:=by omega
 have q2:(ofM t).y≤9999:=by omega
 refine jU 50906 ?_
 refine jqe (jebl 4 1 zr3 fun p2=>?_)
 refine seq_ent (freeze 1 rfl) ?_;refine seq_ent (ent_none (byF [])) ?_
 refine jqm (jmcO 2 (figures_ac none [] (ofM t).y [1000,100,10,1] q1 (by omega) (by decide) (by decide)) (fun p3=>?_) (ho:=rfl) (he:=(.cons (se_nilO rfl) (.cons (se rfl cZ) (.cons (se_frzI [1000,100,10,1] rfl rfl rfl (by decide) (fun a ha=>by rw [Nat.zero_add];exact fl_ints [1000,100,10,1] a ha)) .nil)))))
 refine jU 506000000507000000505000000501000501006751 ?_
 refine jqe (jebl 5 1 zr3 fun p4=>?_)
 refine jU 3 ?_;refine seq_ent (ent_h (.same (.same (.same (.blk rfl (fun j hj=>fl_ints (putF (ofM t)) j hj) .nil))))) ?_;refine jU 2051 ?_;refine l_loop (α:=Nat×Option Nat) [6,8,33,34,35,36,37,38,39,40,41] (fun (i,g)=>[(6,.os 2 g 0 (putL6 (ofM t) i).length 1),(33,.c (.int .i64 (i:Nat)))]) (fun (i,g)=>[(p1,.blk 6 (dF (ofM t))),(p2,.dead),(g,.blk (putL6 (ofM t) i).length (byF (putL6 (ofM t) i))),(p4,.blk 5 (inF (putF (ofM t))))]) (fun i=>i.1≤5) (fun i=>5-i.1) ((0,p3)) ?_ (fun _=>rfl) ?_ ?_ ?_
 ·simp
 ·exact .cons (cO (congrArg List.length hp0)) (.cons cZ .nil)
 ·refine .blk rfl (fun j hj=>by rcases j with _|_|_|_|_|_|j <;> first|exact cZ|omega) (.frzDead (.blk (congrArg List.length hp0) (fun j hj=>CEnt.of_eq (congrArg (byF · j) hp0)) (.same .nil)))
 ·rintro ⟨i,g'⟩ (hi:i≤5)
  refine jU 7526 ?_;refine jcc (fun h104=>?_) fun h104=>?_
  rotate_left
  ·refine jU 84000200020006000 ?_
   have hlen:=putL6_len (ofM t) hi
   have hi5:i=5:=by omega
   have he:ofE t=0:=if_pos q0
   refine jU 16 ?_
   refine jqe (jebl 1 1 zr5 fun p5=>?_)
   refine jqm (m_appendB (l2:=[90]) rfl rfl rfl (Nat.le_refl _) (fun _ _=>cZ) (src_os rfl (.inl rfl) (by decide)) rfl (hh_bytes (.cons (cI (rfl)) .nil)) Tryz.underlying22 nu22 sz5 zr5 by5 rfl (by (simp;omega)) (leaf_fl rfl rfl) rfl rfl (fun p6=>?_))
   refine seq_ent (freeze 2 rfl) ?_;refine seq_ent (thaw 44 (fun a _=>byF (bodyL (ofM t)) a) rfl rfl (by omega) (fun a b ha hb=>CEnt.of_eq (by rw [show 0+(a * 1+b)=a by omega,← putL_all,hi5]))) ?_;refine jU 511 ?_
   refine jR (jrt (hv:=?_))
   rw [if_pos q0,he]
   exact cT (CEnt.rs (by rw [hi5,putL_all]) (fun _ _ _ _=>cZ)) CEnt.nil
  refine jU 51507006207810 ?_
  have hlt:i<(putF (ofM t)).length:=by simp [putF];omega
  refine jE (weaken 8 (.c (.int .i64 ((putF (ofM t)).getD i 0))) cZ) ?_;refine jU 11200 ?_
  refine jqe (jebl 2 1 zr3 fun p5=>?_)
  refine seq_ent (freeze 4 rfl) ?_
  refine jqm (jmcO 2 (figures_ac g' (putL6 (ofM t) i) ((putF (ofM t)).getD i 0) [10,1] (putF_bd hr hlt).1 (by have:=(putF_bd hr hlt).2;omega) (by decide) (by show (putL6 (ofM t) i).length+2≤_;rw [putL6_len _ hi];omega)) (fun p6=>?_) (ho:=rfl) (he:=(.cons (se rfl (cO rfl)) (.cons (se rfl cZ) (.cons (se_frzI [10,1] rfl rfl rfl (by decide) (fun a ha=>by rw [Nat.zero_add];exact fl_ints [10,1] a ha)) .nil)))))
  refine jU 8519200840051 ?_
  refine jlend ((i+1,p6)) ?_ ?_ (h5:=?_) (h7:=?_)
  ·omega
  ·omega
  ·simp only [putL_succ hlt]
   (repeat (first|exact EntE.nil|refine EntE.cons cZ ?_))
  ·simp only [putL_succ hlt]
   (repeat (first|exact HEnt.nil|refine HEnt.same ?_))
end
end Am
end Go.Proofs.YthlpfjnkieaeeaaGreatDoor
namespace Go.Proofs.YthlpfjnkieaeeaaGreatDoor
set_option linter.unusedVariables false

def isTrueM (l:List UInt8):Bool×Nat :=
 if l.length=0 then (false,2) else if 1<l.length∨((l.getD 0 0).toNat≠255∧(l.getD 0 0).toNat≠0) then (false,4) else (decide ((l.getD 0 0).toNat=255),0)
def rangeM (l:List UInt8) (least most:Int):Int×Nat :=
 if (getM l).2≠0 then (0,(getM l).2) else if (getM l).1<least∨most<(getM l).1 then (0,1) else ((getM l).1,0)
def vk (l:List UInt8) (k:Nat):Int:=if k=0 then (if (l.getD 0 0).toNat<128 then 0 else -1) else valS (l.take k)
end Go.Proofs.YthlpfjnkieaeeaaGreatDoor
namespace Go.Proofs.YthlpfjnkieaeeaaGreatDoor
open Go.RowKit

end Go.Proofs.YthlpfjnkieaeeaaGreatDoor
namespace Go.Proofs.YthlpfjnkieaeeaaGreatDoor
set_option linter.unusedVariables false
namespace Am
open Go.RowKit
section
variable {gs:List Nat} [Ok9 gs]

theorem settled_ac {gs:List Nat} (h r:Int):ACp gs Tryz.prog 217 [.c (.int .u8 h),.c (.int .i64 r)] (.c (.bool ((r == 0 && decide (h<128)) || (r == -1 && decide (128≤h))))):=by
 refine ac_of 19 Tryz.func217 rfl rfl rfl (fun al w0 F0 St0=>?_)
 refine jU 1216516 ?_;refine jqsp 7 (fun g28=>?_) fun g28=>?_
 rotate_left
 ·refine jU 121150044 ?_;refine jqsp 14 (fun g28_2=>?_) fun g28_2=>?_
  ·refine jU 51500800021 ?_
   refine jR (jrt (hv:=?_))
   (refine cB ?_;simp [*];done)
  refine jU 5150050044 ?_
  refine jR (jrt (hv:=?_))
  (refine cB ?_;simp [*];done)
 refine jU 1800021 ?_;refine jqsp 11 (fun g28_2=>?_) fun g28_2=>?_
 ·refine jU 518000444444 ?_
  refine jR (jrt (hv:=?_))
  (refine cB ?_;simp [*];done)
 refine jU 121 ?_;refine jqsp 14 (fun g28_3=>?_) fun g28_3=>?_
 ·refine jU 51500800021 ?_
  refine jR (jrt (hv:=?_))
  omega
 refine jU 5150050044 ?_
 refine jR (jrt (hv:=?_))
 (refine cB ?_;simp [*];done)
def lenN (n:Int):Nat:=((List.range 8).find? fun k=>stp k n).getD 7
def putN (n:Int):List UInt8:=(digs (lenN n+1) n).reverse
theorem lenN_is {n:Int} (h1:-9223372036854775808≤n) (h2:n≤9223372036854775807):IsLen n (lenN n):=by
 unfold lenN
 have h7:=stp_seven n h1 h2
 cases e:(List.range 8).find? fun k=>stp k n with
 | none =>
  have:=List.find?_eq_none.1 e 7 (by simp)
  exact absurd h7 this
 | some k =>
  rw [List.find?_range_eq_some] at e
  obtain ⟨e1,e2,e3⟩:=e
  have:=List.mem_range.1 e2
  exact ⟨by show k≤7;omega,e1,fun j hj=>by have:=e3 j hj;simpa using this⟩
theorem putN_of {n:Int} {k:Nat} (h1:-9223372036854775808≤n) (h2:n≤9223372036854775807) (h:IsLen n k):(digs (k+1) n).reverse=putN n:=by
 unfold putN
 rw [h.unique (lenN_is h1 h2)]
theorem putN_get {n:Int} (h1:-9223372036854775808≤n) (h2:n≤9223372036854775807):getM (putN n)=(n,0):=getM_put n _ (lenN_is h1 h2)
theorem putN_len (n:Int) (h1:-9223372036854775808≤n) (h2:n≤9223372036854775807):1≤(putN n).length∧(putN n).length≤8:=by
 have:=(lenN_is h1 h2).1
 unfold putN
 rw [List.length_reverse,digs_length]
 omega
theorem shr8 (a:Int):a.fdiv (2 ^ (min (8:Int).toNat IntKind.i64.bits))=a / 256:=by
 show a.fdiv 256=a / 256
 rw [Int.fdiv_eq_ediv_of_nonneg a (by decide)]
theorem byte_wrap (a:Int):IntKind.u8.wrap a=((byte a).toNat:Nat):=by rw [IntKind.wrap_u8,byte_toNat]
theorem digs_last (k:Nat) (n:Int):(((digs (k+1) n).getD k 0).toNat:Int)=sh k n % 256:=by rw [digs_get _ _ _ (by omega),byte_toNat]
set_option maxHeartbeats 1000000 in
theorem wput_ac {gs:List Nat} (n:Int) (h1:-9223372036854775808≤n) (h2:n≤9223372036854775807):ACp gs Tryz.prog 168 [.c (.int .i64 n)] (bsC (putN n)):=by
 have h7:=stp_seven n h1 h2
 refine ac_of 29 Tryz.func168 rfl rfl rfl (fun al w0 F0 St0=>?_)
 refine jU 16516 ?_;refine jq (rd_convI rfl rfl Tryz.underlying3 Tryz.underlying5 ((((byte n).toNat:Nat):Int)) (byte_wrap n)) ?_
 refine jqe (jebl 1 1 zr5 fun p1=>?_)
 refine jU 16751 ?_;refine jq (rd_shr rfl rfl rfl (by (omega)) (_) (rfl)) ?_;refine jU 2051 ?_;refine l_loop (α:=Nat×Option Nat) [3,4,10,11,12,13,14,15,16,17,18,19,20,21,22,23,24,25] (fun (k,g)=>[(3,.os 0 g 0 (digs (k+1) n).length 1),(4,.c (.int .i64 (sh (k+1) n)))]) (fun (k,g)=>[(g,.blk (digs (k+1) n).length (byF (digs (k+1) n)))]) (fun (k,g)=>k≤7∧∀ j,j<k→stp j n=false) (fun (k,g)=>8-k) ((0,p1)) ?_ (fun _=>rfl) ?_ ?_ ?_
 ·exact ⟨Nat.zero_le _,fun j hj=>absurd hj (Nat.not_lt_zero j)⟩
 ·exact .cons cZ (.cons (cI (shr8 n)) .nil)
 ·exact .blk rfl (fun j hj=>by obtain rfl:j=0:=(by rw [digs_length] at hj;omega);exact cZ) .nil
 ·rintro ⟨k,g⟩ ⟨(hk:k≤7),hno⟩
  have hdl:=digs_last k n
  have hdn:=digs_length (k+1) n
  refine jU 931167 ?_;refine jq (jri (i:=k) (hz:=by omega)) ?_;refine jU 150 ?_
  refine jqe (jecP (settled_ac (((digs (k+1) n).getD k 0).toNat:Nat) (sh (k+1) n)) ?_)
  refine jU 530 ?_;refine jcc (fun h19=>?_) fun h19=>?_
  rotate_left
  ·refine jU 84000200020006000 ?_
   have hst:stp k n=true:=by
    unfold stp
    have hh:=h19
    rw [hdl] at hh
    (simp at hh ⊢;omega)
   refine jU 16 ?_
   refine jqm (jmcH 0 (reverse8_ac _ (digs (k+1) n) (by omega)) ?_)
   rintro _ _ ⟨rfl,rfl⟩
   refine ⟨_,_,rfl,cZ,?_⟩
   refine jU 51165 ?_;refine jE (freeze 0 rfl) ?_;refine jE (thawB 2 ((digs (k+1) n).reverse) rfl rfl (by simp) rfl) ?_
   refine jR (jrt (hv:=CEnt.bs (putN_of h1 h2 ⟨hk,hst,hno⟩)))
  refine jU 207810 ?_
  have hst:stp k n=false:=by
   unfold stp
   have hh:=h19
   rw [hdl] at hh
   (simp at hh ⊢;omega)
  refine jU 11200 ?_;refine jq (rd_convI rfl rfl Tryz.underlying3 Tryz.underlying5 ((((byte (sh (k+1) n)).toNat:Nat):Int)) (byte_wrap _)) ?_
  refine jqe (jebl 1 1 zr5 fun p2=>?_)
  refine jqm (m_appendB (l2:=[byte (sh (k+1) n)]) rfl rfl rfl (Nat.le_refl _) (fun _ _=>cZ) (src_os rfl (.inl rfl) (by decide)) rfl (hh_bytes (.cons (cI (rfl)) .nil)) Tryz.underlying22 nu22 sz5 zr5 by5 rfl (by (simp;omega)) (leaf_fl rfl rfl) rfl rfl (fun p3=>?_))
  refine jU 1200840051 ?_;refine jq (rd_shr rfl rfl rfl (by (omega)) (_) (rfl)) ?_;refine jU 851 ?_
  refine jlend ((k+1,p3)) ?_ ?_ (h5:=?_) (h7:=?_)
  ·have hk7:k≠7:=fun e=>by
    rw [e] at hst;rw [hst] at h7;cases h7
   refine ⟨by omega,fun j hj=>?_⟩
   by_cases e:j=k
   ·rw [e];exact hst
   ·exact hno j (by omega)
  ·show 8-(k+1)<8-k;omega
  ·exact .cons (cO (by rw [← digs_succ])) (.cons (cI (shr8 _)) .nil)
  ·exact .blk (by rw [← digs_succ]) (fun j hj=>CEnt.of_eq (by rw [← digs_succ])) .nil
end
end Am
end Go.Proofs.YthlpfjnkieaeeaaGreatDoor
