/- What the law leans on, part 8: W04s, W05, W05b, W05c, W05d, W05e, Laid, Tab, V8, P07e, W07p, P07c, W07, L07, P09n, W07l, W07q, W08m, W08n, W08v, W08w -/
import Derived.Test.YthlpfjnkieaeeaaGreatDoorM7ObjectsOthers
import Derived.Test.YthlpfjnkieaeeaaGreatDoorRows
import Derived.LaidLaws
import Derived.MakeChecks
import Derived.Lib.LaidU8T
import Derived.Shelf.Unicode.ValidAny

set_option maxRecDepth 100000
namespace Go.Proofs.YthlpfjnkieaeeaaGreatDoor
set_option linter.unusedVariables false
namespace Am
open Go.RowKit
section
variable {gs:List Nat} [Ok2 gs]

theorem wser_ac {gs:List Nat} (N:Nat) (hN:N≤9223372036854775807):ACp gs Tryz.prog 292 [.c (.int .i64 (N:Nat))] (strC (dec N)):=by
 have hdl:=dec_len 18 N (by omega)
 refine ac_of 28 Tryz.func292 rfl rfl rfl (fun al w0 F0 St0=>?_)
 refine jU 52167516 ?_;refine jcc (fun h84=>?_) fun h84=>?_
 ·exfalso;omega
 refine jU 8000009100000016810 ?_
 refine jqe (jebl 1 1 zr5 fun p1=>?_)
 refine jU 205160000016751 ?_;refine l_loop (α:=Nat×List UInt8×Option Nat) [0,3,13,14,15,16,17,18,19,20,21,22,23] (fun (m,o,g)=>[(0,.c (.int .i64 (m:Nat))),(3,.os 0 g 0 o.length 1)]) (fun (m,o,g)=>[(g,.blk o.length (byF o))]) (fun (m,o,g)=>m≤N∧dec N=(if m=0 then [] else dec m)++o.reverse) (fun (m,o,g)=>m) ((N / 10,[fig (N % 10)],p1)) ?_ (fun _=>rfl) ?_ ?_ ?_
 ·exact ⟨Nat.div_le_self _ _,dec_first N⟩
 ·exact .cons (cI (by omega)) (.cons cZ .nil)
 ·exact .blk rfl (fun j hj=>fl_by (l2:=[fig (N % 10)]) (.cons (cI (fig_int N).symm) .nil) j hj) .nil
 ·rintro ⟨m,o,g⟩ ⟨(hm:m≤N),hd⟩
  have ho:o.length≤19:=by have:=congrArg List.length hd;simp only [List.length_append,List.length_reverse] at this;omega
  refine jU 52167 ?_;refine jcc (fun h88=>?_) fun h88=>?_
  rotate_left
  ·refine jU 1684000200020006000 ?_
   refine jqm (jmcH 0 (reverse8_ac _ o (by omega)) ?_)
   rintro _ _ ⟨rfl,rfl⟩
   refine ⟨_,_,rfl,cZ,?_⟩
   refine jU 165 ?_;refine jqo jrbo ?_;refine jU 51 ?_
   refine jR (jrt (hv:=?_))
   refine CEnt.strL ?_
   rw [hd,if_pos (by omega)]
   rfl
  refine jU 8000009100000011200207810 ?_
  refine jqe (jebl 1 1 zr5 fun p2=>?_)
  refine jqm (m_appendB (l2:=[fig (m % 10)]) rfl rfl rfl (Nat.le_refl _) (fun _ _=>cZ) (src_os rfl (.inl rfl) (by decide)) rfl (hh_bytes (.cons (cI ((fig_int m).symm)) .nil)) Tryz.underlying22 nu22 sz5 zr5 by5 rfl (by (simp;omega)) (leaf_fl rfl rfl) rfl rfl (fun p3=>?_))
  refine jU 8516000001200840051 ?_
  refine jlend ((m / 10,o++[fig (m % 10)],p3)) ?_ ?_ (h5:=?_)
  ·exact ⟨by omega,by rw [hd];exact dec_step (by omega) o⟩
  ·show m / 10<m;omega
  ·exact .cons (cI (by omega)) (.cons cZ .nil)
theorem rser_ac {gs:List Nat} (N:Nat) (hN:N≤9223372036854775807):ACp gs Tryz.prog 245 [.c (.int .i64 (N:Nat))] (strC (dec N)):=by
 induction N using dec_ind with
 | h0 N h =>
  refine ac_of 20 Tryz.func245 rfl rfl rfl (fun al w0 F0 St0=>?_)
  refine jU 52167516 ?_;refine jcc (fun h42=>?_) fun h42=>?_
  rotate_left
  ·exfalso;omega
  refine jU 800000916 ?_
  refine jqe (jebl 1 1 zr5 fun p1=>?_)
  refine seq_ent (freeze 0 rfl) ?_;refine seq_ent (thawBL 8 ([fig N]) rfl rfl rfl rfl (.cons (cI ((by rw [fig_toNat _ h];omega))) .nil)) ?_;refine jq jrbs ?_;refine jU 51 ?_
  refine jR (jtr (jrt (hv:=?_)))
  refine CEnt.strL ?_
  exact (dec_small h).symm
 | h1 N h ih =>
  have hdl:=dec_len 18 N (by omega)
  have hdl2:=dec_len 18 (N / 10) (by omega)
  refine ac_of 20 Tryz.func245 rfl rfl rfl (fun al w0 F0 St0=>?_)
  refine jU 52167516 ?_;refine jcc (fun h42=>?_) fun h42=>?_
  ·exfalso;omega
  refine jU 7810 ?_;refine jcd (.rd 0 (.rd 1 (.rd 3 (.rd 4 (.rd 5 (.rd 6 (.two 2 (.one 7 (.rd 8 (.rd 9 (.rd 10 .done)))) 7 (.rd 8 (.one 2 (.rd 9 (.rd 10 .done))))))))))) ?_;refine jU 70 ?_;refine jyq (rd_quo rfl rfl rfl (by (omega)) (by (omega)) (wrap_id (k:=.i64) (by show _∧_;(omega)))) ?_;refine jU 70 ?_;refine jyq (rd_rem rfl rfl rfl (by (omega)) (by (omega))) ?_;refine jyq (jra (hS:=by show _∧_;(omega))) ?_;refine jyq (jrv .i64 .u8 (hS:=by show _∧_;(omega))) ?_;refine jytwo ?_ ?_
  ·refine jye (jecP (ih (by omega)) ?_ (ho:=rfl) (he:=(.cons (se rfl (cI (by omega))) .nil)))
   refine jye (jebl 1 1 zr5 fun p1=>?_)
   refine x_ent (freeze 0 rfl) ?_;refine x_ent (thawBL 17 ([fig (N % 10)]) rfl rfl rfl rfl (.cons (cI ((fig_int N).symm)) .nil)) ?_;refine jyq jrbs ?_;refine jyq (jras (hS:=by ((simp only [List.length_cons,List.length_nil];omega)))) ?_;refine jU 88070 ?_
   refine jR (jrt (hv:=?_))
   refine CEnt.strL ?_
   exact (dec_big h).symm
  ·refine jye (jebl 1 1 zr5 fun p1=>?_)
   refine x_ent (freeze 0 rfl) ?_;refine x_ent (thawBL 17 ([fig (N % 10)]) rfl rfl rfl rfl (.cons (cI ((fig_int N).symm)) .nil)) ?_;refine jyq jrbs ?_
   refine jye (jecP (ih (by omega)) ?_ (ho:=rfl) (he:=(.cons (se rfl (cI (by omega))) .nil)))
   refine jyq (jras (hS:=by ((simp only [List.length_cons,List.length_nil];omega)))) ?_;refine jU 88070 ?_
   refine jR (jrt (hv:=?_))
   refine CEnt.strL ?_
   exact (dec_big h).symm

theorem isFig_of (c:UInt8):isFig c=true↔48≤c.toNat∧c.toNat≤57:=by simp [isFig]
theorem isFig_yes {c:UInt8} (h1:48≤(c.toNat:Int)) (h2:(c.toNat:Int)≤57):isFig c=true:=(isFig_of c).2 ⟨by omega,by omega⟩
theorem isFig_no {c:UInt8} (h:(c.toNat:Int)<48∨57<(c.toNat:Int)):isFig c=false:=by
 cases e:isFig c with
 | false=>rfl
 | true=>have:=(isFig_of c).1 e;omega
theorem take_figs {l:List UInt8} {i:Nat} (hi:i<l.length) (h:(l.take i).all isFig=true) (hc:isFig (l.getD i 0)=true):(l.take (i+1)).all isFig=true:=by
 rw [take_snoc l i hi,List.all_append,h,List.all_cons,hc]
 rfl
theorem figM_bad {l:List UInt8} (h:l=[]∨(18:Int)<(l.length:Nat)∨((1:Int)<(l.length:Nat)∧((l.getD 0 0).toNat:Int)=48)∨l.all isFig=false):(figM l).1=0∧(figM l).2=4:=by
 unfold figM
 rw [if_pos (by
  rcases h with h|h|h|h
  ·exact .inl (by simp [h])
  ·exact .inr (.inl (by omega))
  ·exact .inr (.inr (.inl ⟨by omega,by omega⟩))
  ·exact .inr (.inr (.inr h)))]
 exact ⟨rfl,rfl⟩
theorem figM_good {l:List UInt8} (h0:l≠[]) (h1:¬ (18:Int)<(l.length:Nat)) (h2:¬ ((1:Int)<(l.length:Nat)∧((l.getD 0 0).toNat:Int)=48)) (h3:l.all isFig=true):(figM l).1=valD l∧(figM l).2=0:=by
 unfold figM
 rw [if_neg (by
  rintro (h|h|h|h)
  ·exact h0 (List.eq_nil_of_length_eq_zero h)
  ·exact h1 (by omega)
  ·exact h2 ⟨by omega,by omega⟩
  ·rw [h3] at h;cases h)]
 exact ⟨rfl,rfl⟩
theorem take_val {l:List UInt8} {i:Nat} (hi:i<l.length):valD (l.take (i+1))=10 * valD (l.take i)+((l.getD i 0).toNat-48):=by
 rw [take_snoc l i hi,valD_append]
theorem wfig_ac (l:List UInt8):ACp gs Tryz.prog 268 [strC l] (.tup 2 (fl [.c (.int .i64 ((figM l).1:Nat)),.err (figM l).2])):=by
 refine ac_of 48 Tryz.func268 rfl rfl rfl (fun al w0 F0 St0=>?_)
 refine jU 1600001675116 ?_;refine jqsp 9 (fun g97=>?_) fun g97=>?_
 ·refine jU 79000580004444444418000444 ?_;refine jcd (.rd 0 (.rd 1 (.rd 2 .done))) ?_;refine jU 88070704000000 ?_
  refine jR (jtr (jrt (hv:=?_)))
  have hb:=@figM_bad l (by (simp_all;done))
  exact cT (cI (by rw [hb.1];rfl)) (CEnt.errN hb.2)
 refine jU 15002400001 ?_;refine jqsp 14 (fun g97_2=>?_) fun g97_2=>?_
 ·refine jU 790005800044444444 ?_;refine jcd (.rd 0 (.rd 1 (.rd 2 .done))) ?_;refine jU 88070704000000 ?_
  refine jR (jtr (jrt (hv:=?_)))
  have hb:=@figM_bad l (by (simp_all;done))
  exact cT (cI (by rw [hb.1];rfl)) (CEnt.errN hb.2)
 refine jU 12400001 ?_;refine jqsp 18 (fun g97_3=>?_) fun g97_3=>?_
 rotate_left
 ·refine jU 2051400001675168103005500500444 ?_;refine l_loop (α:=Nat) [2,3,4,5,6,27,28,29,30,31,32,33,34,35,36,37,38,39,40,41,42,43,44,45,46] (fun i=>[(4,.c (.int .i64 (valD (l.take i):Nat))),(27,.c (.int .i64 (i:Nat)))]) (fun _=>[]) (fun i=>i≤l.length∧(l.take i).all isFig=true) (fun i=>l.length-i) (0) ?_ (fun _=>rfl) ?_ ?_ ?_
  ·exact ⟨Nat.zero_le _,rfl⟩
  ·(repeat (first|exact EntE.nil|refine EntE.cons cZ ?_))
  ·(repeat (exact HEnt.nil))
  ·rintro i ⟨(hi:i≤l.length),hf⟩
   have hl18:l.length≤18:=by omega
   refine jU 7526 ?_;refine jcc (fun h101=>?_) fun h101=>?_
   rotate_left
   ·refine jU 5111684000200020006000 ?_
    refine jR (jrt (hv:=?_))
    have hi2:i=l.length:=by omega
    rw [hi2,List.take_length] at hf
    have hb:=figM_good (l:=l) (by (simp_all;done)) (by (simp_all;done)) (by grind) hf
    exact cT (cI (by rw [hb.1,hi2,List.take_length])) (CEnt.errN hb.2)
   refine jU 5116207810 ?_
   have hv:=valD_lt17 hf (by rw [List.length_take];omega)
   refine jU 121675180000000116 ?_;refine jqsp 35 (fun g103=>?_) fun g103=>?_
   ·refine jU 790005800044 ?_;refine jcd (.rd 0 (.rd 1 (.rd 2 .done))) ?_;refine jU 88070704000000 ?_
    refine jR (jtr (jbr (jtr (jtr (jbr (jtr (jrt (hv:=?_))))))))
    have hb:=@figM_bad l (.inr (.inr (.inr (all_of_bad (i:=i) (by omega) (by exact isFig_no (.inl (by omega)))))))
    exact cT (cI (by rw [hb.1];rfl)) (CEnt.errN hb.2)
   refine jU 550021 ?_;refine jcc (fun h103=>?_) fun h103=>?_
   ·refine jcs ?_;refine jcd (.rd 0 (.rd 1 (.rd 2 .done))) ?_;refine jU 88070704000000 ?_
    refine jR (jtr (jbr (jtr (jtr (jbr (jtr (jrt (hv:=?_))))))))
    have hb:=@figM_bad l (.inr (.inr (.inr (all_of_bad (i:=i) (by omega) (by exact isFig_no (.inr (by omega)))))))
    exact cT (cI (by rw [hb.1];rfl)) (CEnt.errN hb.2)
   refine jU 9191200810 ?_;refine jq (jrv .u8 .i64) ?_;refine jU 85192008400519 ?_
   refine jlend (i+1) ?_ ?_ (h5:=?_)
   ·exact ⟨by omega,take_figs (by omega) hf (isFig_yes (by omega) (by omega))⟩
   ·show l.length-(i+1)<l.length-i;omega
   ·exact .cons (cI (by rw [take_val (by omega)];omega)) (.cons (cI (by omega)) .nil)
 refine jU 1 ?_;refine jq (jrix (i:=0)) ?_;refine jU 550080002 ?_;refine jcc (fun h97=>?_) fun h97=>?_
 ·refine jcs ?_;refine jcd (.rd 0 (.rd 1 (.rd 2 .done))) ?_;refine jU 88070704000000 ?_
  refine jR (jtr (jrt (hv:=?_)))
  have hb:=@figM_bad l (by (simp_all;done))
  exact cT (cI (by rw [hb.1];rfl)) (CEnt.errN hb.2)
 refine jU 205140000167516810 ?_;refine l_loop (α:=Nat) [2,3,4,5,6,27,28,29,30,31,32,33,34,35,36,37,38,39,40,41,42,43,44,45,46] (fun i=>[(4,.c (.int .i64 (valD (l.take i):Nat))),(27,.c (.int .i64 (i:Nat)))]) (fun _=>[]) (fun i=>i≤l.length∧(l.take i).all isFig=true) (fun i=>l.length-i) (0) ?_ (fun _=>rfl) ?_ ?_ ?_
 ·exact ⟨Nat.zero_le _,rfl⟩
 ·(repeat (first|exact EntE.nil|refine EntE.cons cZ ?_))
 ·(repeat (exact HEnt.nil))
 ·rintro i ⟨(hi:i≤l.length),hf⟩
  have hl18:l.length≤18:=by omega
  refine jU 7526 ?_;refine jcc (fun h101=>?_) fun h101=>?_
  rotate_left
  ·refine jU 5111684000200020006000 ?_
   refine jR (jrt (hv:=?_))
   have hi2:i=l.length:=by omega
   rw [hi2,List.take_length] at hf
   have hb:=figM_good (l:=l) (by (simp_all;done)) (by (simp_all;done)) (by (simp_all;done)) hf
   exact cT (cI (by rw [hb.1,hi2,List.take_length])) (CEnt.errN hb.2)
  refine jU 5116207810 ?_
  have hv:=valD_lt17 hf (by rw [List.length_take];omega)
  refine jU 121675180000000116 ?_;refine jqsp 35 (fun g103=>?_) fun g103=>?_
  ·refine jU 790005800044 ?_;refine jcd (.rd 0 (.rd 1 (.rd 2 .done))) ?_;refine jU 88070704000000 ?_
   refine jR (jtr (jbr (jtr (jtr (jbr (jtr (jrt (hv:=?_))))))))
   have hb:=@figM_bad l (.inr (.inr (.inr (all_of_bad (i:=i) (by omega) (by exact isFig_no (.inl (by omega)))))))
   exact cT (cI (by rw [hb.1];rfl)) (CEnt.errN hb.2)
  refine jU 550021 ?_;refine jcc (fun h103=>?_) fun h103=>?_
  ·refine jcs ?_;refine jcd (.rd 0 (.rd 1 (.rd 2 .done))) ?_;refine jU 88070704000000 ?_
   refine jR (jtr (jbr (jtr (jtr (jbr (jtr (jrt (hv:=?_))))))))
   have hb:=@figM_bad l (.inr (.inr (.inr (all_of_bad (i:=i) (by omega) (by exact isFig_no (.inr (by omega)))))))
   exact cT (cI (by rw [hb.1];rfl)) (CEnt.errN hb.2)
  refine jU 9191200810 ?_;refine jq (jrv .u8 .i64) ?_;refine jU 85192008400519 ?_
  refine jlend (i+1) ?_ ?_ (h5:=?_)
  ·exact ⟨by omega,take_figs (by omega) hf (isFig_yes (by omega) (by omega))⟩
  ·show l.length-(i+1)<l.length-i;omega
  ·exact .cons (cI (by rw [take_val (by omega)];omega)) (.cons (cI (by omega)) .nil)
def figR (l:List UInt8):Nat×Bool:=if (figM l).2=0 then ((figM l).1,true) else (0,false)
theorem figR_bad {l:List UInt8} (h:(l.length:Int)<1∨(18:Int)<(l.length:Nat)∨l.all isFig=false∨dec (valD l)≠l):figR l=(0,false):=by
 unfold figR
 rw [figM_ref,if_neg (show ¬ (1≤l.length∧l.length≤18∧l.all isFig=true∧dec (valD l)=l) from fun h2=>by
  rcases h with h|h|h|h
  ·omega
  ·omega
  ·rw [h] at h2;exact absurd h2.2.2.1 (by simp)
  ·exact h h2.2.2.2)]
 rfl
theorem figR_good {l:List UInt8} (h0:¬ (l.length:Int)<1) (h1:¬ (18:Int)<(l.length:Nat)) (h2:l.all isFig=true) (h3:dec (valD l)=l):figR l=(valD l,true):=by
 have e:figM l=(valD l,0):=by rw [figM_ref,if_pos ⟨by omega,by omega,h2,h3⟩]
 unfold figR
 rw [e]
 rfl
theorem rfig_ac {gs:List Nat} (l:List UInt8):ACp gs Tryz.prog 249 [strC l] (.tup 2 (fl [.c (.int .i64 ((figR l).1:Nat)),.c (.bool (figR l).2)])):=by
 refine ac_of 43 Tryz.func249 rfl rfl rfl (fun al w0 F0 St0=>?_)
 refine jU 12400001675116 ?_;refine jqsp 9 (fun g50=>?_) fun g50=>?_
 ·refine jU 5116900058000444 ?_
  refine jR (jtr (jrt (hv:=?_)))
  have hb:=@figR_bad l (by omega)
  rw [hb]
  exact cZ
 refine jU 55002400001 ?_;refine jcc (fun h50=>?_) fun h50=>?_
 ·refine jU 5116 ?_
  refine jR (jtr (jrt (hv:=?_)))
  have hb:=@figR_bad l (by omega)
  rw [hb]
  exact cZ
 refine jU 205167516810 ?_;refine l_loop (α:=Nat) [2,3,4,5,14,15,16,17,18,19,20,21,22,23,24,25,26,27,28,29,30,31,32,33,34,35,36,37] (fun i=>[(4,.c (.int .i64 (valD (l.take i):Nat))),(5,.c (.int .i64 (i:Nat)))]) (fun _=>[]) (fun i=>i≤l.length∧(l.take i).all isFig=true) (fun i=>l.length-i) (0) ?_ (fun _=>rfl) ?_ ?_ ?_
 ·exact ⟨Nat.zero_le _,rfl⟩
 ·(repeat (first|exact EntE.nil|refine EntE.cons cZ ?_))
 ·(repeat (exact HEnt.nil))
 ·rintro i ⟨(hi:i≤l.length),hf⟩
  have hl18:l.length≤18:=by omega
  refine jU 52400001167 ?_;refine jcc (fun h54=>?_) fun h54=>?_
  rotate_left
  ·refine jU 784000200020006000 ?_
   have hi2:i=l.length:=by omega
   rw [hi2,List.take_length] at hf
   have hv:=valD_lt18 hf (by omega)
   refine jU 16 ?_
   refine jqe (jecP (rser_ac (valD l) (by omega)) ?_ (ho:=rfl) (he:=(.cons (se rfl (cI (by rw [hi2,List.take_length]))) .nil)))
   refine jU 5600001 ?_;refine jcc (fun h60=>?_) fun h60=>?_
   ·refine jU 5116 ?_
    refine jR (jtr (jrt (hv:=?_)))
    have hb:=@figR_bad l (.inr (.inr (.inr (by exact h60))))
    rw [hb]
    exact cZ
   refine jU 51116810 ?_
   refine jR (jrt (hv:=?_))
   have hb:=figR_good (l:=l) (by omega) (by omega) hf (by (simp_all;done))
   rw [hb,hi2,List.take_length]
   exact cZ
  refine jU 7207810 ?_
  have hv:=valD_lt17 hf (by rw [List.length_take];omega)
  refine jU 1280000000116 ?_;refine jqsp 24 (fun g55=>?_) fun g55=>?_
  ·refine jU 51169000580004444 ?_
   refine jR (jtr (jbr (jtr (jtr (jbr (jtr (jrt (hv:=?_))))))))
   have hb:=@figR_bad l (.inr (.inr (.inl (all_of_bad (i:=i) (by omega) (by exact isFig_no (.inl (by omega)))))))
   rw [hb]
   exact cZ
  refine jU 550028000000011 ?_;refine jcc (fun h55=>?_) fun h55=>?_
  ·refine jU 5116 ?_
   refine jR (jtr (jbr (jtr (jtr (jbr (jtr (jrt (hv:=?_))))))))
   have hb:=@figR_bad l (.inr (.inr (.inl (all_of_bad (i:=i) (by omega) (by exact isFig_no (.inr (by omega)))))))
   rw [hb]
   exact cZ
  refine jU 851912008400519970000000800000001191200810 ?_
  refine jlend (i+1) ?_ ?_ (h5:=?_)
  ·exact ⟨by omega,take_figs (by omega) hf (isFig_yes (by omega) (by omega))⟩
  ·show l.length-(i+1)<l.length-i;omega
  ·exact .cons (cI (by rw [take_val (by omega)];omega)) (.cons (cI (by omega)) .nil)
end
section
variable {gs:List Nat} [Ok2 gs]

theorem i64idx_ac {gs:List Nat} {g:FuncId} {n:Nat} {fv:Nat→CV} (hc:calleeB Tryz.prog g=true) (l:List (Int)) (p:(Int)→Bool) (hp:∀ r,ACp gs Tryz.prog g ((fun z:Int=>.c (.int .i64 z)) r::(List.range n).map fv) (.c (.bool (p r)))) :
  ACp gs Tryz.prog 303 [isC l,.fn g n fv] (.c (.int .i64 (firstI p l))):=by
 refine ac_len 0 rfl fun hlen=>?_
 refine ac_of 19 Tryz.func303 rfl rfl rfl (fun al w0 F0 St0=>?_)
 refine jU 20513167516 ?_;refine l_loop (α:=Nat) [4,5,8,9,10,11,12,13,14,15,16,17,18] (fun i=>[(8,.c (.int .i64 (i:Nat)))]) (fun _=>[]) (fun i=>i≤l.length∧∀ j (hj:j<l.length),j<i→p l[j]=false) (fun i=>l.length-i) (0) ?_ (fun _=>rfl) ?_ ?_ ?_
 ·exact ⟨by omega,fun j _ hj=>absurd hj (Nat.not_lt_zero j)⟩
 ·(repeat (first|exact EntE.nil|refine EntE.cons cZ ?_))
 ·(repeat (exact HEnt.nil))
 ·rintro i ⟨hi,he⟩
  refine jU 7526 ?_;refine jcc (fun h108=>?_) fun h108=>?_
  rotate_left
  ·refine jU 51684000200020006000 ?_
   refine jR (jrt (hv:=?_))
   refine cI ?_
   exact (firstI_none fun j hj=>he j hj (by omega)).symm
  refine jU 6070011165116207810 ?_
  refine jqe (e_callV rfl rfl (by assumption) (hp (l.getD i 0)) (entL_fn cZ _) rfl rfl ?_)
  rintro _ _ ⟨rfl,rfl⟩
  refine jU 5 ?_;refine jcc (fun h109=>?_) fun h109=>?_
  ·refine jU 5116 ?_
   refine jR (jbr (jtr (jtr (jbr (jtr (jrt (hv:=?_)))))))
   refine cI ?_
   have hlt:i<l.length:=by omega
   exact (firstI_at i hlt (by simpa [List.getD,hlt] using h109) (fun j hj=>he j (by omega) hj)).symm
  refine jU 8519200840010 ?_;refine jlend (i+1) ?_ ?_
  ·exact ⟨by omega,fun j hj hj1=>by
    by_cases e:j=i
    ·subst e
     simpa [List.getD,hj] using h109
    ·exact he j hj (by omega)⟩
  ·omega
theorem i64has_ac {gs:List Nat} {g:FuncId} {n:Nat} {fv:Nat→CV} (hc:calleeB Tryz.prog g=true) (l:List (Int)) (p:(Int)→Bool) (hp:∀ r,ACp gs Tryz.prog g ((fun z:Int=>.c (.int .i64 z)) r::(List.range n).map fv) (.c (.bool (p r)))) :
  ACp gs Tryz.prog 286 [isC l,.fn g n fv] (.c (.bool (l.any p))):=by
 refine ac_of 9 Tryz.func286 rfl rfl rfl (fun al w0 F0 St0=>?_)
 refine jU 116516 ?_
 refine jqe (jecP (i64idx_ac hc l p hp) ?_)
 refine jU 512 ?_
 refine jR (jrt (hv:=?_))
 refine cB ?_
 exact firstI_any p l
def outA (n:Int):Bool:=decide (n<0) || decide (2147483647<n)
theorem out_ac {gs:List Nat} (n:Int):ACp gs Tryz.prog 287 (.c (.int .i64 n)::(List.range 0).map fun _=>.top) (.c (.bool (outA n))):=by
 refine ac_of 9 Tryz.func287 rfl rfl rfl (fun al w0 F0 St0=>?_)
 refine jU 1216516 ?_;refine jqsp 5 (fun g25=>?_) fun g25=>?_
 ·refine jU 51800044 ?_
  refine jR (jrt (hv:=?_))
  refine cB ?_
  unfold outA
  (simp_all;done)
 refine jU 5150021 ?_
 refine jR (jrt (hv:=?_))
 refine cB ?_
 unfold outA
 (simp_all;omega)
theorem right_out (l:List Int):(!l.any outA)=l.all (fun n=>decide (0≤n) && decide (n≤2147483647)):=by
 rw [← all_not_any]
 congr 2
 funext n
 unfold outA
 by_cases h1:n<0 <;> by_cases h2:2147483647<n <;> simp [h1,h2] <;> omega
theorem oright_ac {gs:List Nat} (l:List Int):ACp gs Tryz.prog 269 [isC l] (.c (.bool (rightA l))):=by
 refine ac_len 0 rfl fun hlen=>?_
 refine ac_of 34 Tryz.func269 rfl rfl rfl (fun al w0 F0 St0=>?_)
 refine jU 123167516 ?_;refine jqsp 7 (fun g22=>?_) fun g22=>?_
 ·refine jU 516900058000444 ?_
  refine jR (jtr (jrt (hv:=?_)))
  refine cB ?_
  unfold rightA
  rw [← right_out]
  (simp_all;omega)
 refine jU 5500231 ?_;refine jcc (fun h22=>?_) fun h22=>?_
 ·refine jU 516 ?_
  refine jR (jtr (jrt (hv:=?_)))
  refine cB ?_
  unfold rightA
  rw [← right_out]
  (simp_all;omega)
 refine jU 16810 ?_
 refine jqe (jecP (i64has_ac (n:=0) (fv:=fun _=>.top) (by kernel_rfl) l outA out_ac) ?_ (ho:=rfl) (he:=(.cons (se rfl cZ) (.cons (se rfl CEnt.fn0) .nil))))
 refine jU 1301651 ?_;refine jqsp 16 (fun g26=>?_) fun g26=>?_
 rotate_left
 ·refine jU 51500444444444415004444 ?_
  refine jR (jrt (hv:=?_))
  refine cB ?_
  unfold rightA
  rw [← right_out]
  grind
 refine jU 1800026020000001 ?_;refine jqsp 22 (fun g26_2=>?_) fun g26_2=>?_
 rotate_left
 ·refine jU 515004444444444 ?_
  refine jR (jrt (hv:=?_))
  refine cB ?_
  unfold rightA
  rw [← right_out]
  (simp_all;omega)
 refine jU 126020000001 ?_;refine jqsp 27 (fun g26_3=>?_) fun g26_3=>?_
 ·refine jU 51800080004444 ?_
  refine jR (jrt (hv:=?_))
  refine cB ?_
  unfold rightA
  rw [← right_out]
  (simp_all;omega)
 refine jU 1 ?_;refine jq (jri (i:=1)) ?_;refine jU 518000500260 ?_
 refine jR (jrt (hv:=?_))
 refine cB ?_
 unfold rightA
 rw [← right_out]
 (simp_all;omega)
end
section
variable {gs:List Nat} [Ok2 gs]

theorem sep_int (n:Nat):(((UInt8.ofNat (n % 128)).toNat:Nat):Int)=(n:Int) % 128:=by
 rw [UInt8.toNat_ofNat'];omega
theorem sep_int2 (n:Nat):(((UInt8.ofNat (n % 128+128)).toNat:Nat):Int)=(n:Int) % 128+128:=by
 rw [UInt8.toNat_ofNat'];omega
theorem septets_ac {gs:List Nat} (N:Nat) (hN:N<34359738368):AC gs Tryz.prog 254 [] [.c (.int .i64 (N:Nat))] (OwnQ (sepL N).length 1 (sepL N).length (byF (sepL N))):=by
 have hlen:=sepL_len hN
 refine ac_of 24 Tryz.func254 rfl rfl rfl (fun al w0 F0 St0=>?_)
 refine jU 800000100000016516 ?_
 refine jqe (jebl 1 1 zr5 fun p1=>?_)
 refine jU 205160000016751 ?_;refine l_loop (α:=Nat×List UInt8×Option Nat) [0,3,10,11,12,13,14,15,16,17,18,19,20] (fun (m,o,g)=>[(0,.c (.int .i64 (m:Nat))),(3,.os 0 g 0 o.length 1)]) (fun (m,o,g)=>[(g,.blk o.length (byF o))]) (fun (m,o,g)=>m≤N∧sepL N=sepHi m++o.reverse∧0<o.length) (fun (m,o,g)=>m) ((N / 128,[UInt8.ofNat (N % 128)],p1)) ?_ (fun _=>rfl) ?_ ?_ ?_
 ·exact ⟨Nat.div_le_self _ _,rfl,Nat.one_pos⟩
 ·exact .cons (cI (by omega)) (.cons cZ .nil)
 ·exact .blk rfl (fun j hj=>fl_by (l2:=[UInt8.ofNat (N % 128)]) (.cons (cI (sep_int N).symm) .nil) j hj) .nil
 ·rintro ⟨m,o,g⟩ ⟨(hm:m≤N),hd,ho0⟩
  have ho:o.length≤5:=by have:=congrArg List.length hd;simp only [List.length_append,List.length_reverse] at this;omega
  refine jU 52167 ?_;refine jcc (fun h60=>?_) fun h60=>?_
  rotate_left
  ·refine jU 84000200020006000 ?_
   have hm0:m=0:=by omega
   rw [hm0,sepHi_zero,List.nil_append] at hd
   refine jU 16 ?_
   refine jqm (jmcH 0 (reverse8_ac _ o (by omega)) ?_)
   rintro _ _ ⟨rfl,rfl⟩
   refine ⟨_,_,rfl,cZ,?_⟩
   refine jU 700051165 ?_
   exact end_O 0 (.inl rfl) (res_1 rfl (arv_tmp rfl)) rfl (by rw [hd,List.length_reverse]) (by rw [hd];exact Nat.le_refl _) (fun _=>by rw [hd]) (fun j hj=>by rw [hd];exact cZ)
  refine jU 8000009100000011200207810 ?_
  refine jqe (jebl 1 1 zr5 fun p2=>?_)
  refine jqm (m_appendB (l2:=[UInt8.ofNat (m % 128+128)]) rfl rfl rfl (Nat.le_refl _) (fun _ _=>cZ) (src_os rfl (.inl rfl) (by decide)) rfl (hh_bytes (.cons (cI ((sep_int2 m).symm)) .nil)) Tryz.underlying22 nu22 sz5 zr5 by5 rfl (by (simp;omega)) (leaf_fl rfl rfl) rfl rfl (fun p3=>?_))
  refine jU 8516000001200840051 ?_
  refine jlend ((m / 128,o++[UInt8.ofNat (m % 128+128)],p3)) ?_ ?_ (h5:=?_)
  ·exact ⟨by omega,by rw [hd,sepHi_pos (show m≠0 by omega),List.reverse_append,List.append_assoc];rfl,by simp⟩
  ·show m / 128<m;omega
  ·exact .cons (cI (by omega)) (.cons cZ .nil)
theorem snoc7 {l:List UInt8} {i:Nat} (h:i<l.length):valSO (l.take (i+1))=valSO (l.take i) * 128+(l.getD i 0).toNat % 128:=by
 rw [List.take_succ_eq_append_getElem h,valSO_snoc]
 simp [List.getD,h]
theorem valS_le {l:List UInt8} (i:Nat):valSO (l.take i)≤valSO l:=by
 have key:∀ (r:List UInt8) (a:List UInt8),valSO a≤valSO (a++r):=by
  intro r
  induction r with
  | nil=>simp
  | cons c r ih =>
   intro a
   have h1:=ih (a++[c])
   rw [valSO_snoc] at h1
   rw [show a++c::r=a++[c]++r by simp]
   have:valSO a≤valSO a * 128:=by omega
   omega
 have:=key (l.drop i) (l.take i)
 rwa [List.take_append_drop] at this
theorem numM_pos {r:List UInt8} {most:Nat} {x:Nat×Nat} (h:numM r most=x):(numM r most).1=x.1∧(numM r most).2=x.2:=by rw [h];exact ⟨rfl,rfl⟩
theorem number_ac {gs:List Nat} [Ok9 gs] (r:List UInt8) (most:Nat) (hr:0<r.length) (hm:most≤9999999999):ACp gs Tryz.prog 272 [bsC r,.c (.int .i64 (most:Nat))] (.tup 2 (fl [.c (.int .i64 ((numM r most).1:Nat)),.err (numM r most).2])):=by
 refine ac_len 0 rfl fun hlen=>?_
 refine ac_of 42 Tryz.func272 rfl rfl rfl (fun al w0 F0 St0=>?_)
 refine jU 931162075116 ?_;refine jq (jri (i:=(r.length-1)) (hz:=by omega)) ?_;refine jU 51260 ?_;refine jcc (fun h99=>?_) fun h99=>?_
 ·refine jcs ?_;refine jcd (.rd 0 (.rd 1 (.rd 2 .done))) ?_;refine jyq (jrde 1) ?_;refine jU 8807070 ?_
  refine jR (jbr (jtr (jrt (hv:=?_))))
  have hb:=numM_pos (r:=r) (most:=most) (x:=(0,2)) (by unfold numM;rw [if_pos (by omega)])
  exact cT (cI (by rw [hb.1];rfl)) (CEnt.errN hb.2)
 refine jU 51260200000016 ?_;refine jcc (fun h101=>?_) fun h101=>?_
 ·refine jcs ?_;refine jcd (.rd 0 (.rd 1 (.rd 2 .done))) ?_;refine jU 88070704000000 ?_
  refine jR (jbr (jtr (jrt (hv:=?_))))
  have hb:=numM_pos (r:=r) (most:=most) (x:=(0,4)) (by unfold numM;rw [if_neg (by omega),if_pos (by omega)])
  exact cT (cI (by rw [hb.1];rfl)) (CEnt.errN hb.2)
 refine jU 20513167516840010 ?_;refine l_loop (α:=Nat) [4,5,6,8,26,27,28,29,30,31,32,33,34,35,36,37,38,39,40] (fun i=>[(6,.c (.int .i64 (valSO (r.take i):Nat))),(26,.c (.int .i64 (i:Nat)))]) (fun _=>[]) (fun i=>i≤r.length∧valSO (r.take i)≤most) (fun i=>r.length-i) (0) ?_ (fun _=>rfl) ?_ ?_ ?_
 ·exact ⟨Nat.zero_le _,by simp [valSO]⟩
 ·(repeat (first|exact EntE.nil|refine EntE.cons cZ ?_))
 ·(repeat (exact HEnt.nil))
 ·rintro i ⟨(hi:i≤r.length),hv⟩
  refine jU 7526 ?_;refine jcc (fun h105=>?_) fun h105=>?_
  rotate_left
  ·refine jU 5111684000200020006000 ?_
   refine jR (jrt (hv:=?_))
   have hi2:i=r.length:=by omega
   rw [hi2,List.take_length] at hv
   have hb:=numM_pos (r:=r) (most:=most) (x:=(valSO r,0)) (by unfold numM;rw [if_neg (by omega),if_neg (by omega),if_neg (by omega)])
   exact cT (cI (by rw [hb.1,hi2,List.take_length])) (CEnt.errN hb.2)
  refine jU 1000000191651607006207810 ?_;refine jq (jrv .u8 .i64) ?_;refine jU 52116519 ?_;refine jcc (fun h107=>?_) fun h107=>?_
  rotate_left
  ·refine jU 8519200840010 ?_
   refine jlend (i+1) ?_ ?_ (h5:=?_)
   ·exact ⟨by omega,by rw [snoc7 (by omega)];omega⟩
   ·show r.length-(i+1)<r.length-i;omega
   ·exact .cons (cI (by rw [snoc7 (by omega)];omega)) (.cons (cI (by omega)) .nil)
  refine jcs ?_;refine jcd (.rd 0 (.rd 1 (.rd 2 .done))) ?_;refine jyq (jrde 0) ?_;refine jU 8807070 ?_
  refine jR (jbr (jtr (jtr (jbr (jtr (jrt (hv:=?_)))))))
  have h9:=snoc7 (l:=r) (i:=i) (by omega)
  have h8:=valS_le (l:=r) (i+1)
  have hb:=numM_pos (r:=r) (most:=most) (x:=(0,1)) (by unfold numM;rw [if_neg (by omega),if_neg (by omega),if_pos (by omega)])
  exact cT (cI (by rw [hb.1];rfl)) (CEnt.errN hb.2)

theorem index1_ac {gs:List Nat} (a:List UInt8) (c:UInt8):ACp gs Tryz.prog 302 [strC a,strC [c]] (.c (.int .i64 (Lib.indexByte a c))) :=
 ac_old fun al w St vals hs hv hr=>by
  rw [vals2 hv,show vals.getD 0 undef=.string ⟨a.toArray⟩ from hr 0,show vals.getD 1 undef=.string ⟨#[c]⟩ from hr 1]
  exact (Tryz.strings_Index_one _ _ w).mono (by rintro e w' ⟨rfl,rfl⟩;exact ⟨by simp,Below.refl _ _⟩)
theorem idx_cut (c:UInt8):∀ l:List UInt8,(Lib.indexByte l c<0∧splitC c l=[l])∨∃ p r,l=p++c::r∧Lib.indexByte l c=(p.length:Nat)∧splitC c l=p::splitC c r
 | []=>.inl ⟨by simp [Lib.indexByte],rfl⟩
 | x::l=>by
  by_cases hx:x=c
  ·subst hx
   refine .inr ⟨[],l,rfl,?_,?_⟩
   ·simp [Lib.indexByte]
   ·simp [splitC]
  ·rcases idx_cut c l with ⟨h1,h2⟩|⟨p,r,h1,h2,h3⟩
   ·refine .inl ⟨?_,?_⟩
    ·have:=Lib.indexByte_ge l c
     have e:Lib.indexByte l c=-1:=by omega
     simp [Lib.indexByte,hx,e]
    ·rw [splitC,if_neg hx,h2];rfl
   ·refine .inr ⟨x::p,r,by rw [h1];rfl,?_,?_⟩
    ·have e:¬ Lib.indexByte l c=-1:=by omega
     simp [Lib.indexByte,hx,h2];try omega
    ·rw [splitC,if_neg hx,h3];rfl
def seqF (f:FuncId) (c:UInt8) (g:Option Nat):CV:=.fn f 3 (fl [.rp 1 fun _=>strC [c],.op 0 g 0,.rp 1 fun _=>.c (.int .i64 0)])
theorem split_ac {gs:List Nat} (s:List UInt8) (c:UInt8):AC gs Tryz.prog 285 [] [strC s,strC [c],.c (.int .i64 0)] (fun r H'=>∃ g,r=seqF 300 c g∧H'=[(g,.blk 1 (fun _=>strC s))]):=by
 refine ac_of 8 Tryz.func285 rfl rfl rfl (fun al w0 F0 St0=>?_)
 refine jcr ?_
 refine jqe (jebx 1 fun p1=>?_)
 refine jqe (jebx 1 fun p2=>?_)
 refine jqe (jebx 1 fun p3=>?_)
 refine jU 51 ?_;refine jE (freeze 1 rfl) ?_;refine jE (freeze 2 rfl) ?_;refine jE (thawP (m:=1) 4 rfl rfl (by decide)) ?_;refine jE (thawP (m:=1) 5 rfl rfl (by decide)) ?_;refine jE (blk_ent 0 (m:=1) (F:=fun _=>strC s) rfl (Nat.le_refl _) (fun _=>rfl) (fun j hj=>by obtain rfl:j=0:=(by omega);exact cZ)) ?_;refine jcr ?_;refine jq jrmf ?_;refine jU 700051 ?_
 exact end_own (.inl rfl) (seqF 300 c p1) _ [0] (by decide) rfl ((res_1 rfl (arv_tmp rfl)).ent (by refine CEnt.fn3 (CEnt.rp ?_) cP (CEnt.rp ?_) <;> (intro j hj;obtain rfl:j=0:=(by omega);exact cZ))) ⟨_,rfl,rfl⟩
theorem splitSeq_ac {gs:List Nat} (s:List UInt8) (c:UInt8):AC gs Tryz.prog 267 [] [strC s,strC [c]] (fun r H'=>∃ g,r=seqF 300 c g∧H'=[(g,.blk 1 (fun _=>strC s))]):=by
 refine ac_of 8 Tryz.func267 rfl rfl rfl (fun al w0 F0 St0=>?_)
 refine jU 116516 ?_
 refine jqe (jecS (split_ac s c) ?_)
 rintro _ _ ⟨p1,rfl,rfl⟩
 refine jU 700051 ?_
 exact end_own (.inl rfl) _ _ [0] (by decide) rfl (res_1 rfl (arv_tmp rfl)) ⟨_,rfl,rfl⟩
theorem parts_drop {c:UInt8} {s rest:List UInt8} {k:Nat} (h:(splitC c s).drop k=splitC c rest):k<(splitC c s).length:=by
 have:=splitC_ne c rest
 rw [← h] at this
 apply Classical.byContradiction
 intro hn
 exact this (List.drop_eq_nil_of_le (by omega))
theorem drop_getD {α:Type} {l:List α} {k:Nat} {d x:α} {r:List α} (h:l.drop k=x::r):l.getD k d=x∧l.drop (k+1)=r:=by
 have h1:l[k]?=some x:=by
  have:=congrArg (fun m=>m[0]?) h
  simpa using this
 exact ⟨by simp [List.getD,h1],by rw [← List.drop_drop,h];rfl⟩
theorem seq_iter {gs:List Nat} (s:List UInt8) (c:UInt8) (g:Option Nat) (hs:s.length≤100000000000):IterC gs Tryz.prog 300 [(g,.blk 1 (fun _=>strC s))] ((List.range 3).map (fl [.rp 1 fun _=>strC [c],.op 0 g 0,.rp 1 fun _=>.c (.int .i64 0)])) (splitC c s).length (fun k=>[strC ((splitC c s).getD k [])]):=fun l J Jx hY=>by
 refine ac_ofY true 52 Tryz.func300 rfl rfl rfl (fun al w0 F0 St0=>?_)
 refine jU 52400006067 ?_;refine jcc (fun h38=>?_) fun h38=>?_
 ·exfalso;simp at h38
 refine jU 207810 ?_;refine l_loop (α:=Nat×List UInt8) [7,8,29,30,31,32,33,34,35,36,37,38,39,40,41,42,43,44,45,46,47,48] (fun _=>[]) (fun (k,rest)=>[(g,.blk 1 (fun _=>strC rest)),(some l,.obj (J k))]) (fun (k,rest)=>(splitC c s).drop k=splitC c rest∧rest.length≤s.length) (fun (k,rest)=>rest.length) ((0,s)) ?_ (fun _=>rfl) ?_ ?_ ?_
 ·exact ⟨rfl,Nat.le_refl _⟩
 ·exact .nil
 ·exact .same (.same .nil)
 ·rintro ⟨k,rest⟩ ⟨hk,hlen⟩
  have hkl:=parts_drop hk
  have hcut:=idx_cut c rest
  refine jU 6050620 ?_
  refine jqe (jecP (index1_ac rest c) ?_)
  refine jU 5216751 ?_;refine jcc (fun h50=>?_) fun h50=>?_
  ·refine jU 12008400020008000020006000 ?_
   have hsp:splitC c rest=[rest]:=by
    rcases hcut with h|⟨q,r,_,h,_⟩
    ·exact h.2
    ·omega
   have hk2:=drop_getD (d:=[]) (hk.trans hsp)
   have hm:(splitC c s).length=k+1:=by
    have:=congrArg List.length hk2.2
    simp at this
    omega
   refine jU 50 ?_
   refine seq_mdI (wanted_none rfl) rfl (m_callY (i:=1) rfl rfl rfl (hY k hkl) (.cons (se rfl (CEnt.strL hk2.1.symm)) .nil) rfl rfl ?_)
   rintro _ _ (⟨rfl,rfl⟩|⟨rfl,rfl⟩)
   ·refine ⟨_,_,rfl,cZ,?_⟩
    refine jU 5 ?_
    exact end_own (.inr rfl) _ _ [1] (by decide) rfl (res_0 rfl) (.inl (by rw [hm];rfl))
   ·refine ⟨_,_,rfl,cZ,?_⟩
    refine jU 5 ?_
    exact end_own (.inr rfl) _ _ [1] (by decide) rfl (res_0 rfl) (.inr rfl)
  refine jU 810 ?_
  obtain ⟨q,r,hr,hi,hsp⟩:∃ q r,rest=q++c::r∧Lib.indexByte rest c=(q.length:Nat)∧splitC c rest=q::splitC c r:=by
   rcases hcut with h|h
   ·omega
   ·exact h
  have hk2:=drop_getD (d:=[]) (hk.trans hsp)
  have hql:q.length<rest.length:=by rw [hr];simp
  refine jU 9601506 ?_;refine jq (rd_sliceLT rfl rfl Tryz.underlying9 rfl (show _=((q.length:Nat):Int) by omega) (by (omega))) ?_;refine jU 116751 ?_
  refine seq_mdI (wanted_none rfl) rfl (m_callY (i:=1) rfl rfl rfl (hY k hkl) (.cons (se rfl (CEnt.strL (by rw [hk2.1,hr];simp))) .nil) rfl rfl ?_)
  rintro _ _ (⟨rfl,rfl⟩|⟨rfl,rfl⟩)
  ·refine ⟨_,_,rfl,cZ,?_⟩
   refine jU 200810300530 ?_;refine jqo (jrdo (hn:=by (omega))) ?_;refine jU 1 ?_;refine jq (jrdr (hn:=by (omega))) ?_;refine jq jrls ?_;refine jq (jra (hS:=by show _∧_;((simp only [List.length_cons,List.length_nil];omega)))) ?_;refine jq (rd_sliceLF rfl rfl Tryz.underlying9 rfl (show _=(((q.length+1):Nat):Int) by (simp only [List.length_cons,List.length_nil];omega)) (by (omega))) ?_
   refine jqm (jmst 1 ?_ (hn:=by (omega)))
   refine jU 84005 ?_
   refine jlend ((k+1,rest.drop (q.length+1))) ?_ ?_ (h5:=?_) (h7:=?_)
   ·exact ⟨by rw [hk2.2,hr];simp,by rw [List.length_drop];omega⟩
   ·show (rest.drop (q.length+1)).length<rest.length;rw [List.length_drop];omega
   ·exact .nil
   ·exact .blk rfl (fun j hj=>by obtain rfl:j=0:=(by omega);exact cZ) (.same .nil)
  ·refine ⟨_,_,rfl,cZ,?_⟩
   refine jU 3000500030005000300070009000530 ?_
   exact end_own (.inl rfl) _ _ [1] (by decide) rfl (res_0 rfl) (.inr rfl)
end
section
variable {gs:List Nat} [Ok2 gs]

theorem CEnt.nilO {i k:Nat}:CEnt (.c (.slice none 0 0)) (.os i none 0 0 k):=fun al St w v h=>⟨rfl,h⟩
theorem split_len (c:UInt8):∀ l:List UInt8,(splitC c l).length≤l.length+1
 | []=>by simp [splitC]
 | x::l=>by
  have ih:=split_len c l
  rw [splitC]
  split
  ·simp;omega
  ·have h:∀ ls:List (List UInt8),ls≠[]→(consHead x ls).length=ls.length:=fun ls h=>by cases ls <;> simp_all [consHead]
   rw [h _ (splitC_ne c l)]
   simp;omega
theorem part_len {c:UInt8}:∀ {l p:List UInt8},p ∈ splitC c l→p.length≤l.length
 | [],p,h=>by simp [splitC] at h;simp [h]
 | x::l,p,h=>by
  rw [splitC] at h
  split at h
  ·rcases List.mem_cons.1 h with rfl|h
   ·simp
   ·have:=part_len h;simp;omega
  ·cases hs:splitC c l with
   | nil=>exact absurd hs (splitC_ne c l)
   | cons q r =>
    rw [hs,consHead] at h
    rcases List.mem_cons.1 h with rfl|h
    ·have:=part_len (c:=c) (l:=l) (p:=q) (by rw [hs];exact List.mem_cons_self ..)
     simp;omega
    ·have:=part_len (c:=c) (l:=l) (p:=p) (by rw [hs];exact List.mem_cons_of_mem _ h)
     simp;omega
theorem take_get {α:Type} {l:List α} {k:Nat} (d:α) (h:k<l.length):l.take (k+1)=l.take k++[l.getD k d]:=by
 rw [List.take_succ_eq_append_getElem h]
 simp [List.getD,h]
theorem getD_mem' {α:Type} {l:List α} {k:Nat} (d:α) (h:k<l.length):l.getD k d ∈ l:=by
 simp [List.getD,h]
theorem parse_bad {s:List UInt8} (h:(splitC 46 s).all okP=false):(parseM s).1=[]∧(parseM s).2=4:=by
 unfold parseM;rw [if_pos h];exact ⟨rfl,rfl⟩
theorem parse_wrong {s:List UInt8} (h:(splitC 46 s).all okP=true) (h2:rightA ((splitC 46 s).map valP)=false):(parseM s).1=[]∧(parseM s).2=1:=by
 unfold parseM;rw [if_neg (by simp [h]),if_pos h2];exact ⟨rfl,rfl⟩
theorem parse_good {s:List UInt8} (h:(splitC 46 s).all okP=true) (h2:rightA ((splitC 46 s).map valP)=true):(parseM s).1=(splitC 46 s).map valP∧(parseM s).2=0:=by
 unfold parseM;rw [if_neg (by simp [h]),if_neg (by simp [h2])];exact ⟨rfl,rfl⟩
theorem all_false {α:Type} {p:α→Bool} {l:List α} {k:Nat} (d:α) (h:k<l.length) (hp:p (l.getD k d)=false):l.all p=false:=by
 cases e:l.all p with
 | false=>rfl
 | true =>
  have:=List.all_eq_true.1 e _ (getD_mem' d h)
  rw [hp] at this;cases this
set_option maxHeartbeats 1000000 in
theorem oparse_ac (s:List UInt8) (hs:s.length≤1000000000):ACp gs Tryz.prog 253 [strC s] (.tup 2 (fl [isC (parseM s).1,.err (parseM s).2])):=by
 have hpl:=split_len 46 s
 refine ac_of 33 Tryz.func253 rfl rfl rfl (fun al w0 F0 St0=>?_)
 refine jcr ?_
 refine jqe (jeal (n:=1) zr137 rfl fun p1=>?_)
 refine jqe (jeal (n:=1) zr25 rfl fun p2=>?_)
 refine jU 65 ?_
 refine jqe (jeal (n:=1) zr137 rfl fun p3=>?_)
 refine jU 1675 ?_
 refine jqe (jecS (splitSeq_ac s 46) ?_)
 rintro _ _ ⟨gS,rfl,rfl⟩
 refine jU 205 ?_;refine jE (blk_ent 0 (m:=1) (F:=fun _=>.c (.slice none 0 0)) rfl (Nat.le_refl _) (fun _=>rfl) (fun j hj=>by obtain rfl:j=0:=(by omega);exact cZ)) ?_;refine jE (blk_ent 1 (m:=1) (F:=fun _=>.c .nilIface) rfl (Nat.le_refl _) (fun _=>rfl) (fun j hj=>by obtain rfl:j=0:=(by omega);exact cZ)) ?_;refine jE (blk_ent 2 (m:=1) (F:=fun _=>.os 3 none 0 0 1) rfl (Nat.le_refl _) (fun _=>rfl) (fun j hj=>by obtain rfl:j=0:=(by omega);exact CEnt.nilO)) ?_;refine jE (ent_none (inF [])) ?_;refine code_range (π:=List Int×Option Nat) (q:=List Int×Option Nat) ((splitC 46 s).length) (fun k=>[strC ((splitC 46 s).getD k [])]) ([(gS,.blk 1 (fun _=>strC s))]) (fun (X,ga)=>[(p1,.blk 1 (fun _=>.c (.slice none 0 0))),(p2,.blk 1 (fun _=>.c .nilIface)),(p3,.blk 1 (fun _=>.os 3 ga 0 X.length 1)),(ga,.blk X.length (inF X))]) (fun k (X,ga)=>X=((splitC 46 s).take k).map valP∧((splitC 46 s).take k).all okP=true) (fun (X,ga)=>[(p1,.blk 1 (fun _=>.c (.slice none 0 0))),(p2,.blk 1 (fun _=>.err 4)),(p3,.blk 1 (fun _=>.os 3 ga 0 X.length 1)),(ga,.blk X.length (inF X))]) (fun c _=>c=.ret∧(splitC 46 s).all okP=false) (([],none)) [3,0,1,2,4] rfl rfl (by kernel_rfl) (seq_iter s 46 gS (by omega)) (⟨rfl,rfl⟩) (by decide) rfl (fun _ _=>rfl) rfl ?_ ?_ ?_
 ·intro k hk l al2 w2 F2 S2 R0 R1
  rintro ⟨X,ga⟩ ⟨hX,hall⟩
  have hXl:X.length≤k:=by rw [hX,List.length_map,List.length_take];omega
  have hpp:=part_len (getD_mem' (l:=splitC 46 s) [] hk)
  refine jU 51200 ?_;refine assign_norm ?_;refine jU 1620 ?_
  refine jqe (jecP (wfig_ac ((splitC 46 s).getD k [])) ?_)
  refine jU 15000001675119009001 ?_;refine jqsp 18 (fun g34=>?_) fun g34=>?_
  ·refine jU 7900058000444 ?_;refine jcdZ (.rd 0 (.one 1 (.one 2 .done))) ?_;refine jzq (jrde 3) ?_
   refine jzm (jmst 1 ?_)
   refine jzm (jmst 1 ?_)
   refine jU 5000300070008700000 ?_;refine round_ret ((X,ga)) ?_ rfl ?_
   ·exact ⟨rfl,all_false [] hk (by unfold okP;(simp_all;done))⟩
   ·exact .blk rfl (fun j hj=>by obtain rfl:j=0:=(by omega);exact cZ) (.blk rfl (fun j hj=>by obtain rfl:j=0:=(by omega);exact cZ) (.same (.same (.same .nil))))
  refine jU 55002400001 ?_;refine jcc (fun h34=>?_) fun h34=>?_
  ·refine jcs ?_;refine jcdZ (.rd 0 (.one 1 (.one 2 .done))) ?_;refine jzq (jrde 3) ?_
   refine jzm (jmst 1 ?_)
   refine jzm (jmst 1 ?_)
   refine jU 5000300070008700000 ?_;refine round_ret ((X,ga)) ?_ rfl ?_
   ·exact ⟨rfl,all_false [] hk (by unfold okP;(simp_all;omega))⟩
   ·exact .blk rfl (fun j hj=>by obtain rfl:j=0:=(by omega);exact cZ) (.blk rfl (fun j hj=>by obtain rfl:j=0:=(by omega);exact cZ) (.same (.same (.same .nil))))
  refine jU 150200810 ?_
  refine jqe (jebl 1 1 zr3 fun p4=>?_)
  refine jqm (m_appendC rowC_in (l2:=[valP ((splitC 46 s).getD k [])]) rfl rfl rfl rfl (by exact Nat.le_of_eq (Nat.mul_one _)) (fun _ _=>cZ) (src_os rfl (.inl rfl) (by decide)) rfl (hh_ints (.cons (cI (rfl)) .nil)) Tryz.underlying137 nu137 sz3 zr3 by3 rfl (by (simp;omega)) (by (simp;omega)) (leaf_flk rfl rfl) rfl rfl (Nat.mul_one _) (fun p5=>?_))
  refine jqm (jmst 1 ?_)
  refine jU 4005 ?_;refine round_norm ((X++[valP ((splitC 46 s).getD k [])],p5)) ?_ rfl ?_
  ·exact ⟨by rw [hX,take_get [] hk,List.map_append];rfl,by rw [take_get [] hk,List.all_append,hall];simp only [List.all_cons,List.all_nil,Bool.and_true,Bool.true_and,okP];(simp_all;omega)⟩
  ·exact .same (.same (.blk rfl (fun j hj=>by obtain rfl:j=0:=(by omega);exact cZ) (.same (.same .nil))))
 ·rintro ⟨X,ga⟩ ⟨hX,hall⟩
  rw [List.take_length] at hX hall
  refine jU 50678400 ?_;refine seq_ent (freeze 3 rfl) ?_;refine seq_ent (thawIL 28 X rfl rfl rfl (Nat.ble_eq_true_of_le (Nat.le_refl _)) (fun j hj=>cZ)) ?_
  refine jqe (jecP (oright_ac X) ?_)
  refine jU 530 ?_;refine jcc (fun h39=>?_) fun h39=>?_
  ·refine jcs ?_;refine jcdZ (.rd 0 (.one 1 (.one 2 .done))) ?_;refine jzq (jrde 0) ?_
   refine jzm (jmst 1 ?_)
   refine jzm (jmst 1 ?_)
   refine jU 8700000 ?_
   refine jR (jtr (jrt (hres:=res_2 rfl javc javc) (hv:=?_)))
   have hb:=parse_wrong hall (by rw [← hX];simpa using h39)
   exact cT (CEnt.nilS' (by rw [hb.1];rfl)) (CEnt.errN hb.2)
  refine jU 506810 ?_;refine seq_ent (thawIL 32 X rfl rfl rfl (Nat.ble_eq_true_of_le (Nat.le_refl _)) (fun j hj=>cZ)) ?_
  refine jqm (jmst 1 ?_)
  refine jqm (jmst 1 ?_)
  refine jU 5 ?_
  refine jR (jrt (hres:=res_2 rfl javc javc) (hv:=?_))
  have hb:=parse_good hall (by rw [← hX];simpa using h39)
  exact cT (show CEnt (isC X) _ from CEnt.of_eq (by rw [hb.1,hX])) (CEnt.nilE hb.2)
 ·rintro _ ⟨X,ga⟩ ⟨rfl,hbad⟩
  refine .inl ⟨rfl,?_⟩
  refine jbr (jtr (jrt (hres:=res_2 rfl javc javc) (hv:=?_)))
  have hb:=parse_bad hbad
  exact cT (CEnt.nilS' (by rw [hb.1];rfl)) (CEnt.errN hb.2)
end
section
variable {gs:List Nat} [Ok2 gs]

def cmpI (a b:Int):Int:=if a<b then -1 else if b<a then 1 else 0
def underM (s t:List UInt8):Bool:=decide ((parseM s).2=0) && decide ((parseM t).2=0) && underA (parseM s).1 (parseM t).1
end
section
variable {gs:List Nat} [Ok2 gs]

theorem parse_ok {s:List UInt8} (h:(parseM s).2=0):rightA (parseM s).1=true:=(parse_right (s:=s) (l:=(parseM s).1) (by rw [← h])).1
theorem sep_take {l:List Int} {i:Nat} (h:i<(l.drop 2).length):(((l.drop 2).take (i+1)).map fun n=>sepL n.toNat).flatten=(((l.drop 2).take i).map fun n=>sepL n.toNat).flatten++sepL (l.getD (2+i) 0).toNat:=by
 rw [take_get 0 h,List.map_append,List.flatten_append]
 simp [List.getD]
theorem sep_flat_len {l:List Int} (h:∀ n ∈ l,0≤n∧n≤2147483647):((l.map fun n=>sepL n.toNat).flatten).length≤5 * l.length:=by
 induction l with
 | nil=>simp
 | cons a l ih =>
  have h1:=sepL_len (n:=a.toNat) (by have:=h a (by simp);omega)
  have h2:=ih fun n hn=>h n (by simp [hn])
  simp at h2 ⊢
  omega
set_option maxHeartbeats 1000000 in
theorem oput_ac (s:List UInt8) (hs:s.length≤1000000000):ACp gs Tryz.prog 220 [strC s] (.tup 2 (fl [bsC (putM s),.err (parseM s).2])):=by
 refine ac_of 39 Tryz.func220 rfl rfl rfl (fun al w0 F0 St0=>?_)
 refine jU 165116 ?_
 refine jqe (jecP (oparse_ac s hs) ?_)
 refine jU 55000001675119009001 ?_;refine jcc (fun h70=>?_) fun h70=>?_
 ·refine jU 51116 ?_
  refine jR (jtr (jrt (hv:=cT (CEnt.nilS' (by unfold putM;rw [if_neg (by omega)];rfl)) cZ)))
 refine jU 7810 ?_
 obtain ⟨hl2,hl16,hall,ha,hb⟩:=right_at (parse_ok (s:=s) (by omega))
 obtain ⟨l,hl⟩:∃ l,(parseM s).1=l:=⟨_,rfl⟩
 rw [hl] at hl2 hl16 hall ha hb ⊢
 have h0:=hall _ (getD_mem' (l:=l) (k:=0) 0 (by omega))
 have h1:=hall _ (getD_mem' (l:=l) (k:=1) 0 (by omega))
 refine jcd (.rd 0 (.rd 1 (.rd 2 (.rd 3 (.rd 4 (.rd 5 (.rd 6 (.rd 7 (.one 8 (.rd 9 .done)))))))))) ?_;refine jU 70 ?_;refine jyq (jri (i:=0)) ?_;refine jU 703000070000 ?_;refine jyq (jri (i:=1)) ?_;refine jU 3000070000 ?_
 refine jye (jecO (septets_ac (40 * l.getD 0 0+l.getD 1 0).toNat (by omega)) (fun p1=>?_) (ho:=rfl) (he:=(.cons (se rfl (cI (by omega))) .nil)))
 refine jU 16788070 ?_;refine jq (jrsr (hl:=(bd_some rfl (show (2:Int)=((2:Nat):Int) from rfl))) (hu:=(bd_none _ _))) ?_;refine jU 20513 ?_;refine l_loop (α:=Nat×List UInt8×Option Nat) [6,8,29,30,31,32,33,34,35,36,37] (fun (i,o,g)=>[(6,.os 0 g 0 o.length 1),(29,.c (.int .i64 (i:Nat)))]) (fun (i,o,g)=>[(g,.blk o.length (byF o))]) (fun (i,o,g)=>i≤l.length-2∧o=sepL (40 * l.getD 0 0+l.getD 1 0).toNat++(((l.drop 2).take i).map fun n=>sepL n.toNat).flatten) (fun (i,o,g)=>l.length-i) ((0,sepL (40 * l.getD 0 0+l.getD 1 0).toNat,p1)) ?_ (fun _=>rfl) ?_ ?_ ?_
 ·exact ⟨Nat.zero_le _,by simp⟩
 ·exact .cons cZ (.cons cZ .nil)
 ·exact .same .nil
 ·rintro ⟨i,o,g⟩ ⟨(hi:i≤l.length-2),ho⟩
  have hol:o.length≤5+5 * i:=by
   rw [ho,List.length_append]
   have e1:=sepL_len (n:=(40 * l.getD 0 0+l.getD 1 0).toNat) (by omega)
   have e2:=sep_flat_len (l:=(l.drop 2).take i) (fun n hn=>hall n (List.mem_of_mem_drop (List.mem_of_mem_take hn)))
   rw [List.length_take,List.length_drop] at e2
   omega
  refine jU 7526 ?_;refine jcc (fun h74=>?_) fun h74=>?_
  rotate_left
  ·refine jU 5111684000200020006000 ?_;refine jE (freeze 0 rfl) ?_;refine jE (thawB 2 (o) rfl rfl (by rfl) rfl) ?_
   refine jR (jrt (hv:=?_))
   refine cT (CEnt.bs ?_) (CEnt.nilE (by omega))
   unfold putM
   rw [if_pos (by omega),hl,ho,List.take_of_length_le (by rw [List.length_drop];omega)]
   rfl
  refine jU 51607006207810 ?_
  have h3:=hall _ (getD_mem' (l:=l) (k:=2+i) 0 (by omega))
  have h4:=sepL_len (n:=(l.getD (2+i) 0).toNat) (by omega)
  refine jU 11200 ?_
  refine jqe (jecO (septets_ac (l.getD (2+i) 0).toNat (by omega)) (fun p2=>?_) (ho:=rfl) (he:=(.cons (se rfl (cI (by omega))) .nil)))
  refine jqm (m_appendB rfl rfl rfl (Nat.le_refl _) (fun _ _=>cZ) (src_os rfl (.inl rfl) (by omega)) rfl (fun j hj=>by rw [Nat.zero_add];exact cZ) Tryz.underlying22 nu22 sz5 zr5 by5 rfl (by omega) (fun j hj=>rfl) rfl rfl (fun p3=>?_))
  refine jU 8519200840051 ?_
  refine jlend ((i+1,o++sepL (l.getD (2+i) 0).toNat,p3)) ?_ ?_ (h5:=?_) (h7:=?_)
  ·exact ⟨by omega,by rw [ho,sep_take (by rw [List.length_drop];omega),List.append_assoc]⟩
  ·show l.length-(i+1)<l.length-i;omega
  ·exact .cons cZ (.cons (cI (by omega)) .nil)
  ·exact .same .nil
theorem put_len (s:List UInt8):(putM s).length≤100:=by
 unfold putM
 split
 ·rename_i h
  obtain ⟨hl2,hl16,hall,ha,hb⟩:=right_at (parse_ok h)
  unfold putA
  have h0:=hall _ (getD_mem' (l:=(parseM s).1) (k:=0) 0 (by omega))
  have h1:=hall _ (getD_mem' (l:=(parseM s).1) (k:=1) 0 (by omega))
  have e1:=sepL_len (n:=(40 * (parseM s).1.getD 0 0+(parseM s).1.getD 1 0).toNat) (by omega)
  have e2:=sep_flat_len (l:=(parseM s).1.drop 2) (fun n hn=>hall n (List.mem_of_mem_drop hn))
  rw [List.length_drop] at e2
  rw [List.length_append]
  omega
 ·simp
end
end Am
end Go.Proofs.YthlpfjnkieaeeaaGreatDoor
namespace Go.Proofs.YthlpfjnkieaeeaaGreatDoor
set_option linter.unusedVariables false
open Go.RowKit Go.ChangeShapes

def isErr (x:String×DataW Unit):Bool:=match x.2 with
 | .iface nm (.ptr (.agg [.lit (.string _)])) => nm == "*errors.errorString"
 | _=>false
theorem isErr_out {x : String × DataW Unit} (h : isErr x = true) : ∃ text, x.2 = .iface "*errors.errorString" (.ptr (.agg [.lit (.string text)])) := by
 obtain ⟨n,d⟩:=x
 unfold isErr at h
 dsimp only at h ⊢
 split at h
 ·exact ⟨_,by rw [eq_of_beq h]⟩
 ·cases h

theorem laid_list {P:Program} {W:World} {nm:String} {ti tp te ts:TypeId} {ms:Array (String×TypeId)} {f:Field}
  (hi:P.underlying ti=some (.interface ms)) (hrow:∀ u,P.typeName? 3 u=some nm→u=tp)
  (hp:P.underlying tp=some (.pointer te)) (he:P.underlying te=some (.struct #[f])) (hft:f.type=ts) (hfo:f.offset=0) (hs:P.underlying ts=some .string) (hc:P.cellsOf te=1) (hcs:P.cellsOf ts=1) :
  ∀ (L:List (String×DataW Unit)) (ps:List MemPlace),DataW.LaidVars P W L ps →
   (∀ b off,MemPlace.cell b off ∈ ps→(∃ c t,W.heap[b]?=some (.cells c t (0,0)))∧∀ u v,W.cell? ⟨b,off,none⟩=some (.iface u v)→Value.okWide P W .any 0 u v)→ps.Nodup →
   (∀ x ∈ L,isErr x=true→(∃ text,x.2=.iface nm (.ptr (.agg [.lit (.string text)])))∧∀ g,P.globalNamed x.1=some g→(P.globals[g]?).map (·.type)=some ti) →
   ∃ al:List Addr,al.length=(L.filter isErr).length∧al.Nodup∧(∀ a ∈ al,a.spot=none∧MemPlace.cell a.block a.off ∈ ps) ∧
    ∀ (i:Nat) (x:String×DataW Unit) (a:Addr),(L.filter isErr)[i]?=some x→al[i]?=some a→∃ g,P.globalNamed x.1=some g∧W.cell? ⟨g,0,none⟩=some (.iface tp (.pointer (some a)))
 | [],ps,_,_,_,_=>⟨[],rfl,List.nodup_nil,by simp,by simp⟩
 |(n,d)::r,ps,hv,hrows,hnd,hL=>by
  obtain ⟨g,t,cs,fuel,p,q,hg,ht,hvar,hd,hrest,rfl⟩:=hv
  have hnq:q.Nodup:=List.Nodup.sublist (List.sublist_append_right _ _) hnd
  obtain ⟨al,h1,h2,h3,h4⟩:=laid_list hi hrow hp he hft hfo hs hc hcs r q hrest (fun b off hm=>hrows b off (List.mem_append_right _ hm)) hnq (fun x hx=>hL x (List.mem_cons_of_mem _ hx))
  by_cases hE:isErr (n,d)=true
  case neg =>
   have hE:isErr (n,d)=false:=by simpa using hE
   rw [List.filter_cons_of_neg (by simp [hE])]
   exact ⟨al,h1,h2,fun a ha=>⟨(h3 a ha).1,List.mem_append_right _ (h3 a ha).2⟩,h4⟩
  obtain ⟨⟨text,hx⟩,hty⟩:=hL (n,d) (List.mem_cons_self ..) hE
  rw [List.filter_cons_of_pos hE]
  simp only at hx
  subst hx
  obtain rfl:=Option.some.inj ((hty g hg).symm.trans ht)
  obtain ⟨l⟩:=cs
  have hcell0:∀ v,l=[v]→W.cell? ⟨g,0,none⟩=some v:=fun v e=>by
   subst e
   simpa using World.var?_cell hg hvar 0
  obtain ⟨a,s,rfl,ha,_,_,rfl⟩:=errorString_of_trod hi hrow hp he hft hfo hs hc hcs hd (fun u v e=>by
   simp only at e
   subst e
   exact (hrows g 0 (by simp [MemPlace.row])).2 u v (hcell0 _ rfl))
  have hsp:a.spot=none:=World.cell?_spot ha
  have hpl:MemPlace.cell a.block a.off ∈ MemPlace.row a 1:=by simp [MemPlace.row]
  refine ⟨a::al,by simp [h1],List.nodup_cons.2 ⟨fun hm=>?_,h2⟩,?_,?_⟩
  ·have hq:=(h3 a hm).2
   have:=(List.nodup_append.1 hnd).2.2 (MemPlace.cell a.block a.off) (List.mem_append_right _ hpl) _ hq
   exact this rfl
  ·intro b hb
   rcases List.mem_cons.1 hb with rfl|hb
   ·exact ⟨hsp,List.mem_append_left _ (List.mem_append_right _ hpl)⟩
   ·exact ⟨(h3 b hb).1,List.mem_append_right _ (h3 b hb).2⟩
  ·intro i x b hi' hb
   match i,hi',hb with
   | 0,hi',hb =>
    simp only [List.getElem?_cons_zero,Option.some.injEq] at hi' hb
    subst hi'
    subst hb
    exact ⟨g,hg,hcell0 _ rfl⟩
   | i+1,hi',hb=>exact h4 i x b (by simpa using hi') (by simpa using hb)

theorem starRow (u : TypeId) (h : Tryz.prog.typeName? 3 u = some "*errors.errorString") : u = 356 := by
 have e : "*errors.errorString" = "*" ++ "errors.errorString" := by decide +kernel
 exact typeName_ptr_named (nm := "errors.errorString") (by rw [← e]; kernel_rfl) (by kernel_rfl) (by decide) u (by rw [← e]; exact h)
theorem cellsErr:Tryz.prog.cellsOf 378=1:=by kernel_rfl
theorem cellsStr:Tryz.prog.cellsOf 9=1:=by kernel_rfl

theorem sent_of_laid {W:World} {L:List (String×DataW Unit)} {g0:List Nat} (h:laidMetH Tryz.prog L W) (h1:(L.all fun x=>x.2.handleName?.isNone)=true)
  (h3:((L.filter isErr).map fun x=>Tryz.prog.globalNamed x.1)=(errG g0).map some) (h4:((errG g0).map fun g=>(Tryz.prog.globals[g]?).map (·.type))=List.replicate (errG g0).length (some 25))
  (ht:tabA ∈ lst g0→tabB ∈ lst g0→Lib.Utf8Tabs tabA tabB W) (hAB:((lst g0).contains tabA)=((lst g0).contains tabB)):∃ al,SentL W g0 al:=by
 rw [MakeChecks.laidMetH_plain _ _ _ h1] at h
 obtain ⟨ps,hv,hnd,hrows⟩:=h
 have hlen:(L.filter isErr).length=(errG g0).length:=by simpa using congrArg List.length h3
 have hgl:∀ (i:Nat) (x:String×DataW Unit),(L.filter isErr)[i]?=some x→∃ g,(errG g0)[i]?=some g∧Tryz.prog.globalNamed x.1=some g:=by
  intro i x hx
  have:=congrArg (fun l=>l[i]?) h3
  simp only [List.getElem?_map,hx,Option.map_some] at this
  obtain ⟨g,hg,e⟩:=Option.map_eq_some_iff.1 this.symm
  exact ⟨g,hg,e.symm⟩
 obtain ⟨al,l1,l2,l3,l4⟩:=laid_list Tryz.underlying25 starRow Tryz.underlying356 Tryz.underlying378 rfl rfl Tryz.underlying9 cellsErr cellsStr L ps hv hrows hnd
  (fun x hx hE=>⟨isErr_out hE,fun g hg=>by
   obtain ⟨i,hi⟩:=List.mem_iff_getElem?.1 (List.mem_filter.2 ⟨hx,hE⟩)
   obtain ⟨g',hg',e⟩:=hgl i x hi
   obtain rfl:=Option.some.inj (e.symm.trans hg)
   have:=congrArg (fun l=>l[i]?) h4
   simp only [List.getElem?_map,hg',Option.map_some] at this
   have hlt:i<(errG g0).length:=(List.getElem?_eq_some_iff.1 hg').1
   rw [List.getElem?_replicate,if_pos hlt] at this
   exact Option.some.inj this⟩)
 have hvar:∀ i g,(errG g0)[i]?=some g→W.cell? ⟨g,0,none⟩=some (ev al (i+1)):=by
  intro i g hg
  have hlt:i<(errG g0).length:=(List.getElem?_eq_some_iff.1 hg).1
  obtain ⟨x,hx⟩:∃ x,(L.filter isErr)[i]?=some x:=⟨(L.filter isErr)[i],List.getElem?_eq_getElem (by omega)⟩
  obtain ⟨a,ha⟩:∃ a,al[i]?=some a:=⟨al[i],List.getElem?_eq_getElem (by omega)⟩
  obtain ⟨g',hg',e⟩:=hgl i x hx
  obtain rfl:=Option.some.inj (hg.symm.trans hg')
  obtain ⟨g2,e2,hc⟩:=l4 i x a hx ha
  obtain rfl:=Option.some.inj (e.symm.trans e2)
  rw [hc]
  simp [ev,ha]
 refine ⟨al,by omega,fun i j g g' hi _ hj _ e=>(List.getElem?_inj (by have:=(List.getElem?_eq_some_iff.1 hi).1;omega) l2).1 e,fun i g hi _=>hvar i g hi,fun a ha=>(hrows a.block a.off (l3 a ha).2).1,ht,fun g hg=>?_⟩
 by_cases hT:(Nat.beq g tabA || Nat.beq g tabB)=true
 ·have hc:tabA ∈ lst g0∧tabB ∈ lst g0:=by
   rcases Bool.or_eq_true_iff.1 hT with e|e
   ·have:=Nat.eq_of_beq_eq_true e
    subst this
    have h5:(lst g0).contains tabA=true:=List.contains_iff_mem.2 hg
    exact ⟨hg,List.contains_iff_mem.1 (hAB ▸ h5)⟩
   ·have:=Nat.eq_of_beq_eq_true e
    subst this
    have h5:(lst g0).contains tabB=true:=List.contains_iff_mem.2 hg
    exact ⟨List.contains_iff_mem.1 (hAB.symm ▸ h5),hg⟩
  have hU:=ht hc.1 hc.2
  rcases Bool.or_eq_true_iff.1 hT with e|e
  ·have:=Nat.eq_of_beq_eq_true e
   subst this
   exact World.block_lt_of_cell? W _ (hU.1 0 (by decide))
  ·have:=Nat.eq_of_beq_eq_true e
   subst this
   exact World.block_lt_of_cell? W _ (hU.2 0 (by decide)).1
 ·have hm:g ∈ errG g0:=List.mem_filter.2 ⟨(lst_mem.1 hg).1,by
   cases hb:(Nat.beq g tabA || Nat.beq g tabB) with
   | true=>exact absurd hb hT
   | false=>rfl⟩
  obtain ⟨i,hi⟩:=List.mem_iff_getElem?.1 hm
  exact World.block_lt_of_cell? W _ (hvar i g hi)
end Go.Proofs.YthlpfjnkieaeeaaGreatDoor
namespace Go.Proofs.YthlpfjnkieaeeaaGreatDoor
set_option linter.unusedVariables false
open Go.RowKit Go.ChangeShapes
def tabRen:Go.Shelf.Ren:=⟨fun n=>n,fun|5=>5|119=>330|138=>332|139=>333|n=>n,fun|3=>29|4=>30|n=>n⟩
theorem tabTypes:U8Types Tryz.prog tabRen where
 t5:=Tryz.underlying5
 t119:=Tryz.underlying330
 t138:=Tryz.underlying332
 t139:=Tryz.underlying333
theorem tabExtra:U8Extra Tryz.prog tabRen where
 n3:=by kernel_rfl
 n4:=by kernel_rfl
 y3:=by kernel_rfl
 y4:=by kernel_rfl
 c5:=by kernel_rfl
 c119:=by kernel_rfl
 c138:=by kernel_rfl
theorem tabs_of_laid {W : World} {L : List (String × DataW Unit)} (h : laidMetH Tryz.prog L W) (h1 : (L.all fun x => x.2.handleName?.isNone) = true) {i j : Nat} (hi : L[i]? = some ("unicode/utf8.first", Lib.firstData)) (hj : L[j]? = some ("unicode/utf8.acceptRanges", Lib.acceptData)) : Lib.Utf8Tabs tabA tabB W := by
 rw [MakeChecks.laidMetH_plain _ _ _ h1] at h
 obtain ⟨ps,hv,hnd,hrows⟩:=h
 exact utf8Tabs_of_readsT (ρ:=tabRen) tabTypes tabExtra (Lib.LaidVars_reads hv _ _ (List.mem_of_getElem? hi)) (Lib.LaidVars_reads hv _ _ (List.mem_of_getElem? hj))
end Go.Proofs.YthlpfjnkieaeeaaGreatDoor
namespace Go.Proofs.YthlpfjnkieaeeaaGreatDoor
set_option linter.unusedVariables false
open Go.RowKit Go.ChangeShapes
def u8ren:Go.Shelf.Ren:=⟨fun|196=>270|259=>288|n=>n,fun|0=>0|3=>3|4=>4|5=>5|9=>9|12=>12|46=>267|53=>291|119=>330|138=>332|139=>333|n=>n,fun|3=>29|4=>30|n=>n⟩
theorem u8lays:Go.Proofs.Lays.n196 Tryz.prog u8ren:={
 mixed:=by kernel_rfl
 f196:=Tryz.func270.trans (congrArg some (by kernel_rfl))
 f259:=Tryz.func288.trans (congrArg some (by kernel_rfl))
 t0:=Tryz.underlying0
 a0:=Tryz.isAgg0
 z0:=Tryz.sizeOf0
 v0:=Tryz.zeroValue0
 t3:=Tryz.underlying3
 a3:=Tryz.isAgg3
 z3:=Tryz.sizeOf3
 v3:=Tryz.zeroValue3
 t4:=Tryz.underlying4
 a4:=Tryz.isAgg4
 z4:=Tryz.sizeOf4
 v4:=Tryz.zeroValue4
 t5:=Tryz.underlying5
 a5:=Tryz.isAgg5
 z5:=Tryz.sizeOf5
 v5:=Tryz.zeroValue5
 t9:=Tryz.underlying9
 a9:=Tryz.isAgg9
 z9:=Tryz.sizeOf9
 v9:=Tryz.zeroValue9
 t12:=Tryz.underlying12
 a12:=Tryz.isAgg12
 z12:=Tryz.sizeOf12
 v12:=Tryz.zeroValue12
 t46:=Tryz.underlying267
 a46:=Tryz.isAgg267
 z46:=Tryz.sizeOf267
 v46:=Tryz.zeroValue267
 t53:=Tryz.underlying291
 a53:=Tryz.isAgg291
 z53:=Tryz.sizeOf291
 v53:=Tryz.zeroValue291
 t119:=Tryz.underlying330
 a119:=Tryz.isAgg330
 z119:=Tryz.sizeOf330
 t138:=Tryz.underlying332
 a138:=Tryz.isAgg332
 z138:=Tryz.sizeOf332
 v138:=Tryz.zeroValue332
 t139:=Tryz.underlying333
 a139:=Tryz.isAgg333
 z139:=Tryz.sizeOf333
 v139:=Tryz.zeroValue333
 g3:=by kernel_rfl
 g4:=by kernel_rfl }
namespace Am
class OkT (l:List Nat):Prop where
 a:tabA ∈ lst l
 b:tabB ∈ lst l
instance okTT:OkT gsT:=⟨by decide,by decide⟩
theorem valid_ac {gs:List Nat} [OkT gs] (l:List UInt8) (hl:l.length≤9223372036854775807):ACp gs Tryz.prog 270 [strC l] (.c (.bool (Lib.validD l))) :=
 ac_old fun al w St vals hs hv hr=>by
  have h0:vals.getD 0 undef=.string ⟨l.toArray⟩:=hr 0
  rw [vals1 hv,h0]
  exact Any.utf8_ValidString u8lays ⟨l.toArray⟩ w hl (hs.tab OkT.a OkT.b)
end Am
end Go.Proofs.YthlpfjnkieaeeaaGreatDoor
namespace Go.Proofs.YthlpfjnkieaeeaaGreatDoor
set_option linter.unusedVariables false
namespace Am
open Go.RowKit
section
open Go.RowKit Go.Lib
def RefSt (b n c least:Nat):Prop :=
 (n=0∧c=b∧least=0∧b<128∧32≤b∧b≠127)∨(n=1∧c+192=b∧least=128∧b<224)∨(n=2∧c+224=b∧least=2048∧b<240)∨(n=3∧c+240=b∧least=65536∧b<248)
def cR (d:List UInt8) (c0:Nat):Nat→Nat
 | 0=>c0
 | j+1=>cR d c0 j * 64+bt d (j+1)-128
theorem cR_bd {d:List UInt8} {c0 j:Nat} (hj:j≤3) (h0:c0<128) (h:∀ q,1≤q→q≤j→128≤bt d q∧bt d q≤191):cR d c0 j<33554432∧(j≤2→cR d c0 j<524288):=by
 have h1:=h 1 (by omega)
 have h2:=h 2 (by omega)
 have h3:=h 3 (by omega)
 have e0:cR d c0 0=c0:=rfl
 have e1:cR d c0 1=c0 * 64+bt d 1-128:=rfl
 have e2:cR d c0 2=(c0 * 64+bt d 1-128) * 64+bt d 2-128:=rfl
 have e3:cR d c0 3=((c0 * 64+bt d 1-128) * 64+bt d 2-128) * 64+bt d 3-128:=rfl
 have hj4:j=0∨j=1∨j=2∨j=3:=by omega
 rcases hj4 with e|e|e|e <;> rw [e] <;> omega
theorem ref_cont {d:List UInt8} {n c least j:Nat} (hd:d≠[]) (hR:RefSt (bt d 0) n c least) (hj:j<n) (hl:d.length=1+j∨bt d (j+1)<128∨191<bt d (j+1)):plainM d=false:=by
 refine ref_bad hd ?_
 unfold RefSt at hR
 rcases hR with hR|hR|hR|hR
 ·omega
 ·rw [dec_two (by omega) (by omega),if_pos ?_]
  obtain rfl:j=0:=by omega
  simp only [Nat.zero_add] at hl
  omega
 ·rw [dec_three (by omega) (by omega),if_pos ?_]
  have:j=0∨j=1:=by omega
  rcases this with rfl|rfl <;> simp only [Nat.zero_add,Nat.reduceAdd] at hl <;> omega
 ·rw [dec_four (by omega) (by omega),if_pos ?_]
  have:j=0∨j=1∨j=2:=by omega
  rcases this with rfl|rfl|rfl <;> simp only [Nat.zero_add,Nat.reduceAdd] at hl <;> omega
theorem ref_end {d:List UInt8} {n c least:Nat} (hd:d≠[]) (hR:RefSt (bt d 0) n c least) (hl:1+n≤d.length) (h:∀ q,1≤q→q≤n→128≤bt d q∧bt d q≤191) :
  plainM d=if cR d c n<least∨1114111<cR d c n∨(55296≤cR d c n∧cR d c n<57344) then false else plainM (d.drop (1+n)):=by
 have h1:=h 1 (by omega)
 have h2:=h 2 (by omega)
 have h3:=h 3 (by omega)
 unfold RefSt at hR
 rcases hR with ⟨rfl,rfl,rfl,hR⟩|⟨rfl,hc,rfl,hR⟩|⟨rfl,hc,rfl,hR⟩|⟨rfl,hc,rfl,hR⟩
 ·rw [ref_ascii hd (by omega),if_neg (by omega),if_neg (by show ¬ (bt d 0<0∨1114111<bt d 0∨(55296≤bt d 0∧bt d 0<57344));omega)]
 ·have e:cR d c 1=(bt d 0-192) * 64+bt d 1-128:=by show c * 64+bt d 1-128=_;omega
  have hd2:=dec_two (l:=d) (by omega) (by omega)
  rw [e]
  by_cases hb:(bt d 0-192) * 64+bt d 1-128<128
  ·rw [if_pos (.inl hb)]
   exact ref_bad hd (by rw [hd2,if_pos (by omega)])
  ·rw [if_neg (by omega)]
   exact ref_good hd (by rw [hd2,if_neg (by omega)]) (by omega) (by omega)
 ·have e:cR d c 2=((bt d 0-224) * 64+bt d 1-128) * 64+bt d 2-128:=by show (c * 64+bt d 1-128) * 64+bt d 2-128=_;omega
  have hd2:=dec_three (l:=d) (by omega) (by omega)
  obtain ⟨C,hC⟩:∃ C,C=((bt d 0-224) * 64+bt d 1-128) * 64+bt d 2-128:=⟨_,rfl⟩
  have hlt:C≤65535:=by omega
  rw [e,← hC]
  rw [← hC] at hd2
  by_cases hb:C<2048∨(55296≤C∧C<57344)
  ·rw [if_pos (by omega)]
   exact ref_bad hd (by rw [hd2,if_pos (by omega)])
  ·rw [if_neg (by omega)]
   exact ref_good hd (by rw [hd2,if_neg (by omega)]) (by omega) (by omega)
 ·have e:cR d c 3=(((bt d 0-240) * 64+bt d 1-128) * 64+bt d 2-128) * 64+bt d 3-128:=by show ((c * 64+bt d 1-128) * 64+bt d 2-128) * 64+bt d 3-128=_;omega
  have hd2:=dec_four (l:=d) (by omega) (by omega)
  obtain ⟨C,hC⟩:∃ C,C=(((bt d 0-240) * 64+bt d 1-128) * 64+bt d 2-128) * 64+bt d 3-128:=⟨_,rfl⟩
  rw [e,← hC]
  rw [← hC] at hd2
  by_cases hb:C<65536∨1114111<C
  ·rw [if_pos (by omega)]
   exact ref_bad hd (by rw [hd2,if_pos (by omega)])
  ·rw [if_neg (by omega)]
   exact ref_good hd (by rw [hd2,if_neg (by omega)]) (by omega) (by omega)
theorem bt_drop (l:List UInt8) (i j:Nat):bt (l.drop i) j=bt l (i+j):=by simp [bt,List.getD]
theorem dec_at (l:List UInt8) (i:Nat):Utf8.decode ⟨l.toArray⟩ i=dec1 (l.drop i):=by
 unfold dec1
 rw [Lib.decode_at,ba_bang,ba_bang,ba_bang,ba_bang,bt_drop,bt_drop,bt_drop,bt_drop,List.length_drop]
 rfl
theorem dec1_le {d:List UInt8} (hd:d≠[]):(dec1 d).2≤d.length:=by
 have hp:=List.length_pos_iff.2 hd
 unfold dec1 Lib.decodeN
 repeat' split
 all_goals first|(simp only;omega)|omega
end
section
theorem plain07_ac {gs:List Nat} [OkT gs] (l:List UInt8) (hl:l.length≤1000000000):ACp gs Tryz.prog 258 [strC l] (.c (.bool (plainM l))):=by
 refine ac_of 18 Tryz.func258 rfl rfl rfl (fun al w0 F0 St0=>?_)
 refine jU 167516 ?_
 refine jqe (e_range rfl rfl Tryz.underlying9 rfl rfl (fun p1=>?_))
 refine jU 205 ?_;refine l_loop (α:=Nat) [2,4,7,8,9,10,11,12,13,14,15] (fun i=>[]) (fun i=>[(some p1,.obj (iterOP ⟨l.toArray⟩ i))]) (fun i=>i≤l.length∧noBadM (l.drop i)=noBadM l) (fun i=>l.length-i) (0) ?_ (fun _=>rfl) ?_ ?_ ?_
 ·exact ⟨Nat.zero_le _,rfl⟩
 ·exact .nil
 ·exact .same .nil
 ·rintro i ⟨hi,he⟩
  refine jcr ?_
  refine seq_md (wanted_none rfl) (m_next rfl rfl rfl rfl rfl (fun n23=>?_) (fun n23=>?_))
  ·refine jU 51900620810900075900 ?_
   have hd:=dec_at l i
   have hlt:i<l.length:=n23
   have hne:l.drop i≠[]:=by intro e;have:=congrArg List.length e;simp at this;omega
   have hw:=dec1_width (l.drop i)
   have hwl:=dec1_le hne
   simp only [List.length_drop] at hwl
   rw [← hd] at hw hwl
   refine jU 1216 ?_;refine jqsp 12 (fun g24=>?_) fun g24=>?_
   ·refine jU 51690005800044 ?_
    refine jR (jbr (jtr (jbr (jtr (jrt (hv:=?_))))))
    refine cB ?_
    rw [plainM_two,← he,noBadM_step hne,← hd,if_pos ?_]
    ·rfl
    ·unfold badR;simp only [Bool.or_eq_true,decide_eq_true_eq];omega
   refine jU 550021 ?_;refine jcc (fun h24=>?_) fun h24=>?_
   ·refine jU 516 ?_
    refine jR (jbr (jtr (jbr (jtr (jrt (hv:=?_))))))
    refine cB ?_
    rw [plainM_two,← he,noBadM_step hne,← hd,if_pos ?_]
    ·rfl
    ·unfold badR;simp only [Bool.or_eq_true,decide_eq_true_eq];omega
   refine jU 840010 ?_
   refine jlend (i+(Utf8.decode ⟨l.toArray⟩ i).2) ?_ ?_ (h5:=?_) (h7:=?_)
   ·refine ⟨by omega,?_⟩
    have hb:¬ badR (Utf8.decode ⟨l.toArray⟩ i).1=true:=by unfold badR;simp only [Bool.or_eq_true,decide_eq_true_eq];omega
    rw [← he,noBadM_step hne,← hd,if_neg hb,List.drop_drop]
   ·show l.length-(i+(Utf8.decode ⟨l.toArray⟩ i).2)<l.length-i;omega
   ·exact .nil
   ·exact .same .nil
  ·refine jU 168400020002000600030075900 ?_
   refine jqe (jecP (valid_ac l (by omega)) ?_)
   refine jU 51 ?_
   refine jR (jrt (hv:=?_))
   refine cB ?_
   have e:l.drop i=[]:=List.drop_eq_nil_of_le (Nat.le_of_not_lt n23)
   rw [plainM_two,← he,e]
   rfl


set_option maxHeartbeats 4000000 in
theorem rplain_ac {gs:List Nat} (l:List UInt8) (hl:l.length≤1000000000):ACp gs Tryz.prog 243 [strC l] (.c (.bool (plainM l))):=by
 refine ac_of 94 Tryz.func243 rfl rfl rfl (fun al w0 F0 St0=>?_)
 refine jU 207516516 ?_;refine l_loop (α:=Nat) [2,3,4,5,6,7,8,9,10,11,12,13,14,15,16,17,18,19,20,21,22,23,24,25,26,27,28,29,30,31,32,33,34,35,36,37,38,39,40,41,42,43,44,45,46,47,48,49,50,51,52,53,54,55,56,57,58,59,60,61,62,63,64,65,66,67,68,69,70,71,72,73,74,75,76,77,78,79,80,81,82,83,84,85,86,87,88,89,90,91,92,93] (fun i=>[(3,.c (.int .i64 (i:Nat)))]) (fun _=>[]) (fun i=>i≤l.length∧plainM (l.drop i)=plainM l) (fun i=>l.length-i) (0) ?_ (fun _=>rfl) ?_ ?_ ?_
 ·exact ⟨Nat.zero_le _,rfl⟩
 ·exact .cons cZ .nil
 ·(repeat (exact HEnt.nil))
 ·rintro i ⟨hi,he⟩
  refine jU 52400001167 ?_;refine jcc (fun h9=>?_) fun h9=>?_
  rotate_left
  ·refine jU 51684000200020006000 ?_
   refine jR (jrt (hv:=?_))
   refine cB ?_
   rw [← he,List.drop_eq_nil_of_le (by omega)]
   rfl
  refine jU 5111700000008000000011620810 ?_
  have hlt:i<l.length:=by omega
  have hne:l.drop i≠[]:=by intro e;have:=congrArg List.length e;simp at this;omega
  obtain ⟨b,hb⟩:∃ b,b=bt (l.drop i) 0:=⟨_,rfl⟩
  have hbl:b<256:=by rw [hb];exact bt_lt _ _
  refine code_join (α:=Nat×Nat×Nat) [2,4,5,6,15,16,17,18,19,20,21,22,23,24,25,26,27,28,29,30,31,32,33,34,35,36,37,38,39,40,41,42,43,44,45,46] (fun (n,c,z)=>[(4,.c (.int .i64 (c:Nat))),(5,.c (.int .i64 (n:Nat))),(6,.c (.int .i64 (z:Nat)))]) (fun _=>[]) (fun (n,c,z)=>RefSt (bt (l.drop i) 0) n c z) (fun _=>rfl) ?_ ?_
  ·refine jE (weaken 4 (.c (.int .i64 (b:Nat))) (cI (by rw [hb,bt_drop];rfl))) ?_;refine jU 5216 ?_;refine jcc (fun h11=>?_) fun h11=>?_
   ·refine jU 1216 ?_;refine jqsp 19 (fun g12=>?_) fun g12=>?_
    ·refine jU 51690005800044 ?_
     refine jR (jtr (jbr (jtr (jbr (jtr (jrt (hv:=?_)))))))
     refine cB ?_
     rw [← he,ref_ascii hne (by rw [← hb];omega),if_pos (by rw [← hb];omega)]
    refine jU 550021 ?_;refine jcc (fun h12=>?_) fun h12=>?_
    rotate_left
    ·refine jU 810 ?_
     refine jjend ((0,b,0)) ?_ (h5:=?_)
     ·show RefSt (bt (l.drop i) 0) _ _ _
      rw [← hb];unfold RefSt;omega
     ·exact .cons (cI (by omega)) (.cons (cI (by omega)) (.cons (cI (by omega)) .nil))
    refine jU 516 ?_
    refine jR (jtr (jbr (jtr (jbr (jtr (jrt (hv:=?_)))))))
    refine cB ?_
    rw [← he,ref_ascii hne (by rw [← hb];omega),if_pos (by rw [← hb];omega)]
   refine jU 1216 ?_;refine jqsp 25 (fun g15=>?_) fun g15=>?_
   rotate_left
   ·refine jU 1216300550044 ?_;refine jqsp 33 (fun g17=>?_) fun g17=>?_
    rotate_left
    ·refine jU 1216300550044 ?_;refine jqsp 41 (fun g19=>?_) fun g19=>?_
     rotate_left
     ·refine jU 516300550044 ?_
      refine jR (jtr (jbr (jtr (jbr (jtr (jrt (hv:=?_)))))))
      refine cB ?_
      rw [← he,ref_bad hne (dec_head_bad (by rw [← hb];omega) (by rw [← hb];omega))]
     refine jU 5800021 ?_;refine jcc (fun h19=>?_) fun h19=>?_
     rotate_left
     ·refine jU 516 ?_
      refine jR (jtr (jbr (jtr (jbr (jtr (jrt (hv:=?_)))))))
      refine cB ?_
      rw [← he,ref_bad hne (dec_head_bad (by rw [← hb];omega) (by rw [← hb];omega))]
     refine jU 8511191200 ?_
     refine jjend ((3,b-240,65536)) ?_ (h5:=?_)
     ·show RefSt (bt (l.drop i) 0) _ _ _
      rw [← hb];unfold RefSt;omega
     ·exact .cons (cI (by omega)) (.cons (cI (by omega)) (.cons (cI (by omega)) .nil))
    refine jU 5800021 ?_;refine jcc (fun h17=>?_) fun h17=>?_
    ·refine jU 8511191200 ?_
     refine jjend ((3,b-240,65536)) ?_ (h5:=?_)
     ·show RefSt (bt (l.drop i) 0) _ _ _
      rw [← hb];unfold RefSt;omega
     ·exact .cons (cI (by omega)) (.cons (cI (by omega)) (.cons (cI (by omega)) .nil))
    refine jU 1216 ?_;refine jqsp 41 (fun g19=>?_) fun g19=>?_
    rotate_left
    ·refine jU 516300550044 ?_
     refine jR (jtr (jbr (jtr (jbr (jtr (jrt (hv:=?_)))))))
     refine cB ?_
     rw [← he,ref_bad hne (dec_head_bad (by rw [← hb];omega) (by rw [← hb];omega))]
    refine jU 5800021 ?_;refine jcc (fun h19=>?_) fun h19=>?_
    rotate_left
    ·refine jU 516 ?_
     refine jR (jtr (jbr (jtr (jbr (jtr (jrt (hv:=?_)))))))
     refine cB ?_
     rw [← he,ref_bad hne (dec_head_bad (by rw [← hb];omega) (by rw [← hb];omega))]
    refine jU 8511191200 ?_
    refine jjend ((3,b-240,65536)) ?_ (h5:=?_)
    ·show RefSt (bt (l.drop i) 0) _ _ _
     rw [← hb];unfold RefSt;omega
    ·exact .cons (cI (by omega)) (.cons (cI (by omega)) (.cons (cI (by omega)) .nil))
   refine jU 5800021 ?_;refine jcc (fun h15=>?_) fun h15=>?_
   ·refine jU 8511191200 ?_
    refine jjend ((1,b-192,128)) ?_ (h5:=?_)
    ·show RefSt (bt (l.drop i) 0) _ _ _
     rw [← hb];unfold RefSt;omega
    ·exact .cons (cI (by omega)) (.cons (cI (by omega)) (.cons (cI (by omega)) .nil))
   refine jU 1216 ?_;refine jqsp 33 (fun g17=>?_) fun g17=>?_
   rotate_left
   ·refine jU 1216300550044 ?_;refine jqsp 41 (fun g19=>?_) fun g19=>?_
    rotate_left
    ·refine jU 516300550044 ?_
     refine jR (jtr (jbr (jtr (jbr (jtr (jrt (hv:=?_)))))))
     refine cB ?_
     rw [← he,ref_bad hne (dec_head_bad (by rw [← hb];omega) (by rw [← hb];omega))]
    refine jU 5800021 ?_;refine jcc (fun h19=>?_) fun h19=>?_
    rotate_left
    ·refine jU 516 ?_
     refine jR (jtr (jbr (jtr (jbr (jtr (jrt (hv:=?_)))))))
     refine cB ?_
     rw [← he,ref_bad hne (dec_head_bad (by rw [← hb];omega) (by rw [← hb];omega))]
    refine jU 8511191200 ?_
    refine jjend ((3,b-240,65536)) ?_ (h5:=?_)
    ·show RefSt (bt (l.drop i) 0) _ _ _
     rw [← hb];unfold RefSt;omega
    ·exact .cons (cI (by omega)) (.cons (cI (by omega)) (.cons (cI (by omega)) .nil))
   refine jU 5800021 ?_;refine jcc (fun h17=>?_) fun h17=>?_
   ·refine jU 8511191200 ?_
    refine jjend ((2,b-224,2048)) ?_ (h5:=?_)
    ·show RefSt (bt (l.drop i) 0) _ _ _
     rw [← hb];unfold RefSt;omega
    ·exact .cons (cI (by omega)) (.cons (cI (by omega)) (.cons (cI (by omega)) .nil))
   refine jU 1216 ?_;refine jqsp 41 (fun g19=>?_) fun g19=>?_
   rotate_left
   ·refine jU 516300550044 ?_
    refine jR (jtr (jbr (jtr (jbr (jtr (jrt (hv:=?_)))))))
    refine cB ?_
    rw [← he,ref_bad hne (dec_head_bad (by rw [← hb];omega) (by rw [← hb];omega))]
   refine jU 5800021 ?_;refine jcc (fun h19=>?_) fun h19=>?_
   rotate_left
   ·refine jU 516 ?_
    refine jR (jtr (jbr (jtr (jbr (jtr (jrt (hv:=?_)))))))
    refine cB ?_
    rw [← he,ref_bad hne (dec_head_bad (by rw [← hb];omega) (by rw [← hb];omega))]
   refine jU 8511191200 ?_
   refine jjend ((3,b-240,65536)) ?_ (h5:=?_)
   ·show RefSt (bt (l.drop i) 0) _ _ _
    rw [← hb];unfold RefSt;omega
   ·exact .cons (cI (by omega)) (.cons (cI (by omega)) (.cons (cI (by omega)) .nil))
  ·rintro ⟨n0,c0,least⟩ hR0
   have hR:RefSt (bt (l.drop i) 0) n0 c0 least:=hR0
   clear hR0
   have hRb:=hR
   rw [← hb] at hRb
   unfold RefSt at hRb
   have hn3:n0≤3:=by omega
   have hc128:c0<128:=by omega
   have hl6:least≤65536:=by omega
   clear hRb
   refine jU 20751916 ?_;refine l_loop (α:=Nat) [2,3,4,5,49,50,51,52,53,54,55,56,57,58,59,60,61,62,63,64,65,66,67,68,69,70,71,72,73,74,75,76,77,78] (fun j=>[(3,.c (.int .i64 (((i+1+j:Nat):Int)))),(4,.c (.int .i64 (cR (l.drop i) c0 j:Nat))),(5,.c (.int .i64 ((n0-j:Nat):Int)))]) (fun _=>[]) (fun j=>j≤n0∧i+1+j≤l.length∧∀ q,1≤q→q≤j→128≤bt (l.drop i) q∧bt (l.drop i) q≤191) (fun j=>n0-j) (0) ?_ (fun _=>rfl) ?_ ?_ ?_
   ·exact ⟨Nat.zero_le _,by omega,fun q h1 h2=>by omega⟩
   ·exact .cons (cI (by omega)) (.cons cZ (.cons cZ .nil))
   ·(repeat (exact HEnt.nil))
   ·rintro j ⟨hj,hil,hq⟩
    have hcb:=cR_bd (d:=l.drop i) (c0:=c0) (j:=j) (by omega) hc128 hq
    refine jU 52167 ?_;refine jcc (fun h25=>?_) fun h25=>?_
    rotate_left
    ·refine jU 84000200020006000 ?_
     have hjn:j=n0:=by omega
     subst hjn
     obtain ⟨C,hjn⟩:∃ C,C=cR (l.drop i) c0 j:=⟨_,rfl⟩
     rw [← hjn] at hcb
     refine jE (weaken 4 (.c (.int .i64 (C:Nat))) (cI (by rw [hjn]))) ?_;refine jU 12116 ?_;refine jqsp 82 (fun g32=>?_) fun g32=>?_
     ·refine jU 5169000580004444441800044 ?_
      refine jR (jbr (jtr (jbr (jtr (jrt (hv:=?_))))))
      refine cB ?_
      rw [← he,ref_end hne hR (by rw [List.length_drop];omega) hq,if_pos (by rw [← hjn];omega)]
     refine jU 150021 ?_;refine jqsp 86 (fun g32_2=>?_) fun g32_2=>?_
     ·refine jU 516900058000444444 ?_
      refine jR (jbr (jtr (jbr (jtr (jrt (hv:=?_))))))
      refine cB ?_
      rw [← he,ref_end hne hR (by rw [List.length_drop];omega) hq,if_pos (by rw [← hjn];omega)]
     refine jU 121 ?_;refine jqsp 89 (fun g32_3=>?_) fun g32_3=>?_
     rotate_left
     ·refine jU 840010300550050044 ?_
      refine jlend (i+(1+j)) ?_ ?_ (h5:=?_)
      ·refine ⟨by omega,?_⟩
       rw [← he,ref_end hne hR (by rw [List.length_drop];omega) hq,if_neg (by rw [← hjn];omega),List.drop_drop]
      ·show l.length-(i+(1+j))<l.length-i;omega
      ·exact .cons (cI (by omega)) .nil
     refine jU 5500800021 ?_;refine jcc (fun h32=>?_) fun h32=>?_
     ·refine jU 516 ?_
      refine jR (jbr (jtr (jbr (jtr (jrt (hv:=?_))))))
      refine cB ?_
      rw [← he,ref_end hne hR (by rw [List.length_drop];omega) hq,if_pos (by rw [← hjn];omega)]
     refine jU 840010 ?_
     refine jlend (i+(1+j)) ?_ ?_ (h5:=?_)
     ·refine ⟨by omega,?_⟩
      rw [← he,ref_end hne hR (by rw [List.length_drop];omega) hq,if_neg (by rw [← hjn];omega),List.drop_drop]
     ·show l.length-(i+(1+j))<l.length-i;omega
     ·exact .cons (cI (by omega)) .nil
    refine jU 7207810 ?_
    obtain ⟨x,hx⟩:∃ x,x=bt (l.drop i) (j+1):=⟨_,rfl⟩
    have hx2:(l.getD (i+1+j) 0).toNat=x:=by rw [hx,bt_drop,show i+(j+1)=i+1+j by omega];rfl
    have hxl:x<256:=by rw [hx];exact bt_lt _ _
    refine jU 1240000116 ?_;refine jqsp 57 (fun g26=>?_) fun g26=>?_
    ·refine jU 5169000580004444180004444 ?_
     refine jR (jtr (jbr (jtr (jtr (jbr (jtr (jbr (jtr (jbr (jtr (jrt (hv:=?_))))))))))))
     refine cB ?_
     rw [← he,ref_cont hne hR (show j<n0 by omega) (by rw [← hx,List.length_drop];omega)]
    refine jU 150028000000011 ?_;refine jqsp 63 (fun g26_2=>?_) fun g26_2=>?_
    ·refine jU 5169000580004444 ?_
     refine jR (jtr (jbr (jtr (jtr (jbr (jtr (jbr (jtr (jbr (jtr (jrt (hv:=?_))))))))))))
     refine cB ?_
     rw [← he,ref_cont hne hR (show j<n0 by omega) (by rw [← hx,List.length_drop];omega)]
    refine jU 550028000000011 ?_;refine jcc (fun h26=>?_) fun h26=>?_
    ·refine jU 516 ?_
     refine jR (jtr (jbr (jtr (jtr (jbr (jtr (jbr (jtr (jbr (jtr (jrt (hv:=?_))))))))))))
     refine cB ?_
     rw [← he,ref_cont hne hR (show j<n0 by omega) (by rw [← hx,List.length_drop];omega)]
    refine jU 85191200840051912005199700000008000000011916810 ?_
    refine jlend (j+1) ?_ ?_ (h5:=?_)
    ·refine ⟨by omega,by omega,fun q h1 h2=>?_⟩
     by_cases e:q=j+1
     ·rw [e,← hx];omega
     ·exact hq q h1 (by omega)
    ·show n0-(j+1)<n0-j;omega
    ·exact .cons (cI (by omega)) (.cons (cI (by show _=((cR (l.drop i) c0 j * 64+bt (l.drop i) (j+1)-128:Nat):Int);rw [← hx];omega)) (.cons (cI (by omega)) .nil))
end
section
def bitsR (b:List UInt8):Nat:=rev8 (b.getD 1 0).toNat+256 * (if b.length=3 then rev8 (b.getD 2 0).toNat else 0)
def turnM (m:Nat):Nat→Nat
 | 0=>rev16 m
 | j+1=>turnM m j % 256 * 256
def outL (m:Nat):Nat→List UInt8
 | 0=>[UInt8.ofNat ((8-bl m % 8) % 8)]
 | j+1=>outL m j++[UInt8.ofNat (turnM m j / 256)]
def bp (M:Nat):Nat→Nat
 | 0=>0
 | i+1=>if M / 2 ^ i % 2=1 then i+1 else bp M i
def turnedM (b:List UInt8):Nat:=(b.getD 1 0).toNat % 256 * 256+(if b.length=3 then (b.getD 2 0).toNat else 0)
end
section
variable {gs:List Nat} [Ok9 gs]


def rF (M n i:Nat) (j:Nat):CV:=.c (.int .u8 ((gF M n i j:Nat):Int))
end
section
variable {gs:List Nat} [OkG gs]
set_option linter.unusedVariables false
end
section
def lch (c:UInt8):Bool:=(decide (97≤c.toNat) && decide (c.toNat≤122)) || (decide (48≤c.toNat) && decide (c.toNat≤57)) || decide (c.toNat=45)
def labM (l:List UInt8):Bool:=decide (l≠[]) && decide (l.length≤24) && decide (l.getD 0 0≠45) && decide (l.getD (l.length-1) 0≠45) && l.all lch
theorem lab_free {l:List UInt8} (h:labM l=true):(58:UInt8) ∉ l∧(47:UInt8) ∉ l∧l≠[]:=by
 simp only [labM,Bool.and_eq_true,decide_eq_true_eq,List.all_eq_true] at h
 obtain ⟨⟨⟨⟨h1,_⟩,_⟩,_⟩,h2⟩:=h
 exact ⟨fun hm=>by have:=h2 _ hm;revert this;decide,fun hm=>by have:=h2 _ hm;revert this;decide,h1⟩
abbrev S3:=Int×List UInt8×List UInt8
def wordL:List (List UInt8):=[[110,111,100,101],[119,111,114,107,108,111,97,100],[111,112,101,114,97,116,111,114],[98,111,111,116],[99,97]]
def wordM (k:Int):List UInt8:=if k<1 then [] else wordL.getD (k-1).toNat []
def rightS (s:S3):Bool:=decide (1≤s.1) && decide (s.1≤5) && labM s.2.2 && (if s.1=2 then labM s.2.1 else decide (s.2.1=[]))
theorem right_iff (s:S3):rightS s=true↔1≤s.1∧s.1≤5∧labM s.2.2=true∧(s.1=2→labM s.2.1=true)∧(s.1≠2→s.2.1=[]):=by
 simp only [rightS,Bool.and_eq_true,decide_eq_true_eq]
 by_cases h:s.1=2
 ·rw [if_pos h]
  exact ⟨fun ⟨⟨⟨a,b⟩,c⟩,d⟩=>⟨a,b,c,fun _=>d,fun e=>absurd h e⟩,fun ⟨a,b,c,d,_⟩=>⟨⟨⟨a,b⟩,c⟩,d h⟩⟩
 ·rw [if_neg h,decide_eq_true_eq]
  exact ⟨fun ⟨⟨⟨a,b⟩,c⟩,d⟩=>⟨a,b,c,fun e=>absurd e h,fun _=>d⟩,fun ⟨a,b,c,_,d⟩=>⟨⟨⟨a,b⟩,c⟩,d h⟩⟩
theorem kinds {k:Int} (h1:1≤k) (h5:k≤5):k=1∨k=2∨k=3∨k=4∨k=5:=by omega
theorem wordM_nil (k:Int):wordM k=[]↔¬ (1≤k∧k≤5):=by
 constructor
 ·intro h hk
  rcases kinds hk.1 hk.2 with rfl|rfl|rfl|rfl|rfl <;> exact absurd h (by decide)
 ·intro h
  unfold wordM
  by_cases h1:k<1
  ·rw [if_pos h1]
  ·rw [if_neg h1,List.getD_eq_getElem?_getD,List.getElem?_eq_none (by show 5≤_;omega)];rfl
theorem word_idx {k:Int} (h1:1≤k) (h5:k≤5):((wordL.idxOf (wordM k):Nat):Int)+1=k∧wordM k ∈ wordL:=by
 rcases kinds h1 h5 with rfl|rfl|rfl|rfl|rfl <;> decide
def cutM (c:UInt8):List UInt8→List UInt8×List UInt8×Bool
 | []=>([],[],false)
 | x::l=>if x=c then ([],l,true) else (x::(cutM c l).1,(cutM c l).2.1,(cutM c l).2.2)
def textS (s:S3):List UInt8:=wordM s.1++58::(if s.2.1=[] then s.2.2 else s.2.1++47::s.2.2)
def idxW (w:List UInt8):Int:=if w ∈ wordL then (wordL.idxOf w:Nat)+1 else 0
theorem idxW_bd (w:List UInt8):0≤idxW w∧idxW w≤5:=by
 unfold idxW
 split
 ·rename_i h
  have:=List.idxOf_lt_length_iff.2 h
  have e:wordL.length=5:=rfl
  omega
 ·omega
def guessT (t:List UInt8):S3 :=
 if (cutM 47 (cutM 58 t).2.1).2.2=true then (idxW (cutM 58 t).1,(cutM 47 (cutM 58 t).2.1).1,(cutM 47 (cutM 58 t).2.1).2.1) else (idxW (cutM 58 t).1,[],(cutM 58 t).2.1)
def zeroS:S3:=(0,[],[])
def parseT (t:List UInt8):S3×Nat:=if rightS (guessT t)=true∧textS (guessT t)=t then (guessT t,0) else (zeroS,9)
def asKind (t:List UInt8) (k:Int):S3 :=
 if k=2∧(cutM 47 (t.drop ((wordM k).length+1))).2.2=true then (k,(cutM 47 (t.drop ((wordM k).length+1))).1,(cutM 47 (t.drop ((wordM k).length+1))).2.1) else (k,[],t.drop ((wordM k).length+1))
def isKind (t:List UInt8) (k:Int):Prop:=(wordM k).length+1≤t.length∧t.take ((wordM k).length+1)=wordM k++[58]∧rightS (asKind t k)=true∧textS (asKind t k)=t
def oidB:List UInt8:=[49,46,51,46,57,57,57,57,46,49,46]
def oidK:List UInt8:=oidB++[49]
def oidS:List UInt8:=oidB++[50]
def oidN:List UInt8:=oidB++[51]
abbrev P2:=List UInt8×List UInt8
def partsS (s:S3):List P2:=if s.2.1=[] then [(oidK,wordM s.1),(oidN,s.2.2)] else [(oidK,wordM s.1),(oidS,s.2.1),(oidN,s.2.2)]
def stepP (s:S3) (p:P2):S3:=if p.1=oidK then (idxW p.2,s.2.1,s.2.2) else if p.1=oidS then (s.1,p.2,s.2.2) else if p.1=oidN then (s.1,s.2.1,p.2) else s
def guessP (l:List P2):S3:=l.foldl stepP zeroS
theorem guess_parts {s:S3} (h:rightS s=true):guessP (partsS s)=s:=by
 obtain ⟨h1,h5,hn,h2,hs⟩:=(right_iff s).1 h
 obtain ⟨k,sp,nm⟩:=s
 have hk:idxW (wordM k)=k:=by
  have hi:=word_idx h1 h5
  unfold idxW;rw [if_pos hi.2];exact hi.1
 have ks:oidS≠oidK:=by decide
 have kn:oidN≠oidK:=by decide
 have sn:oidN≠oidS:=by decide
 unfold partsS
 by_cases he:sp=[]
 ·subst he
  simp [guessP,stepP,hk,kn,sn,zeroS]
 ·simp [guessP,stepP,hk,ks,kn,sn,zeroS,he]
def ofP (l:List P2):S3×Nat:=if rightS (guessP l)=true∧partsS (guessP l)=l then (guessP l,0) else (zeroS,9)
theorem ofP_iff (l:List P2) (s:S3):ofP l=(s,0)↔rightS s=true∧partsS s=l:=by
 constructor
 ·intro h
  unfold ofP at h
  split at h
  ·rename_i h1
   obtain ⟨rfl,_⟩:=Prod.mk.inj h
   exact h1
  ·simp at h
 ·rintro ⟨h,rfl⟩
  unfold ofP
  rw [guess_parts h,if_pos ⟨h,rfl⟩]
def asKindP (l:List P2) (k:Int):S3:=(k,(if k=2∧1<l.length then (l.getD 1 ([],[])).2 else []),(if 0<l.length then (l.getD (l.length-1) ([],[])).2 else []))
def isKindP (l:List P2) (k:Int):Prop:=rightS (asKindP l k)=true∧partsS (asKindP l k)=l
theorem parts_ref {s:S3} (h:rightS s=true):partsS s=if s.1=2 then [(oidK,wordM s.1),(oidS,s.2.1),(oidN,s.2.2)] else [(oidK,wordM s.1),(oidN,s.2.2)]:=by
 obtain ⟨h1,h5,hn,h2,hs⟩:=(right_iff s).1 h
 unfold partsS
 by_cases hk2:s.1=2
 ·rw [if_pos hk2,if_neg (lab_free (h2 hk2)).2.2]
 ·rw [if_neg hk2,if_pos (hs hk2)]
end
section
theorem hasPre_ac {gs:List Nat} (a b:List UInt8):ACp gs Tryz.prog 177 [strC a,strC b] (.c (.bool (Lib.hasPrefix a b))) :=
 ac_old fun al w St vals hs hv hr=>by
  rw [vals2 hv,show vals.getD 0 undef=.string ⟨a.toArray⟩ from hr 0,show vals.getD 1 undef=.string ⟨b.toArray⟩ from hr 1]
  exact (Tryz.strings_HasPrefix _ _ w).mono (by rintro e w' ⟨rfl,rfl⟩;exact ⟨rfl,Below.refl _ _⟩)
theorem hasSuf_ac {gs:List Nat} (a b:List UInt8) (h:a.length≤9223372036854775807):ACp gs Tryz.prog 178 [strC a,strC b] (.c (.bool (Lib.hasSuffix a b))) :=
 ac_old fun al w St vals hs hv hr=>by
  rw [vals2 hv,show vals.getD 0 undef=.string ⟨a.toArray⟩ from hr 0,show vals.getD 1 undef=.string ⟨b.toArray⟩ from hr 1]
  exact (Tryz.strings_HasSuffix ⟨a.toArray⟩ _ w h).mono (by rintro e w' ⟨rfl,rfl⟩;exact ⟨rfl,Below.refl _ _⟩)
theorem idxB_ac {gs:List Nat} (a:List UInt8) (c:UInt8):ACp gs Tryz.prog 179 [strC a,.c (.int .u8 (c.toNat:Nat))] (.c (.int .i64 (Lib.indexByte a c))) :=
 ac_old fun al w St vals hs hv hr=>by
  rw [vals2 hv,show vals.getD 0 undef=.string ⟨a.toArray⟩ from hr 0,show vals.getD 1 undef=.int .u8 (c.toNat:Nat) from hr 1]
  exact (Tryz.strings_IndexByte _ _ w).mono (by rintro e w' ⟨rfl,rfl⟩;exact ⟨by simp,Below.refl _ _⟩)
def letL:List UInt8:=[97,98,99,100,101,102,103,104,105,106,107,108,109,110,111,112,113,114,115,116,117,118,119,120,121,122,48,49,50,51,52,53,54,55,56,57]
theorem lch_let (c:UInt8):(decide (c.toNat=45) || !decide (Lib.indexByte letL c<0))=lch c:=by
 have key:∀ n:Fin 256,(decide ((UInt8.ofNat n.val).toNat=45) || !decide (Lib.indexByte letL (UInt8.ofNat n.val)<0))=lch (UInt8.ofNat n.val):=by decide +kernel
 have:=key ⟨c.toNat,c.toNat_lt⟩
 simpa using this
theorem pre_hyp (l:List UInt8):Lib.hasPrefix l [45]=decide (l≠[]∧l.getD 0 0=45):=by
 cases l with
 | nil=>decide
 | cons a l =>
  by_cases h:a=45
  ·subst h;simp [Lib.hasPrefix]
  ·have:¬ (45:UInt8)=a:=fun e=>h e.symm
   simp [Lib.hasPrefix,List.isPrefixOf,h,this]
theorem suf_hyp (l:List UInt8):Lib.hasSuffix l [45]=decide (l≠[]∧l.getD (l.length-1) 0=45):=by
 by_cases h0:l=[]
 ·subst h0;decide
 ·obtain ⟨q,c,rfl⟩:∃ q c,l=q++[c]:=⟨l.dropLast,l.getLast h0,(List.dropLast_concat_getLast h0).symm⟩
  have e:(q++[c]).getD ((q++[c]).length-1) 0=c:=by simp [List.getD]
  rw [e]
  unfold Lib.hasSuffix
  rw [Bool.eq_iff_iff,List.isSuffixOf_iff_suffix]
  simp only [decide_eq_true_eq]
  constructor
  ·rintro ⟨t,ht⟩
   exact ⟨h0,(by have:=congrArg List.getLast? ht;simp at this;exact this.symm)⟩
  ·rintro ⟨_,rfl⟩;exact ⟨q,rfl⟩
theorem take_all {l:List UInt8} {i:Nat} (hi:i<l.length) (p:UInt8→Bool):(l.take (i+1)).all p=((l.take i).all p && p (l.getD i 0)):=by
 rw [List.take_succ_eq_append_getElem hi,List.all_append]
 simp [List.getD,hi]
theorem all_no {l:List UInt8} {i:Nat} (hi:i<l.length) (p:UInt8→Bool) (h:p (l.getD i 0)=false):l.all p=false:=by
 rw [List.all_eq_false]
 refine ⟨l[i],List.getElem_mem hi,?_⟩
 have:l.getD i 0=l[i]:=by simp [List.getD,hi]
 rw [← this,h];exact Bool.noConfusion
theorem lab_eq (l:List UInt8):labM l=(decide (l≠[]) && decide (l.length≤24) && !Lib.hasPrefix l [45] && !Lib.hasSuffix l [45] && l.all lch):=by
 unfold labM
 rw [pre_hyp,suf_hyp]
 by_cases h:l=[]
 ·simp [h]
 ·simp [h]
theorem labM_iff {l:List UInt8}:labM l=true↔1≤l.length∧l.length≤24∧(l.getD 0 0).toNat≠45∧(l.getD (l.length-1) 0).toNat≠45∧l.all lch=true:=by
 have e:∀ c:UInt8,c≠45↔c.toNat≠45:=fun c=>not_congr (by rw [← UInt8.toNat_inj];rfl)
 simp only [labM,Bool.and_eq_true,decide_eq_true_eq,e,and_assoc]
 have:l≠[]↔1≤l.length:=List.length_pos_iff.symm
 rw [this]
theorem label_ac {gs:List Nat} (l:List UInt8):ACp gs Tryz.prog 106 [strC l] (.c (.bool (labM l))):=by
 refine ac_of 37 Tryz.func106 rfl rfl rfl (fun al w0 F0 St0=>?_)
 refine jU 160000167516 ?_;refine jqsp 6 (fun g33=>?_) fun g33=>?_
 ·refine jU 51690005800044180004418000444 ?_
  refine jR (jtr (jrt (hv:=?_)))
  refine cB ?_
  rw [lab_eq]
  (simp_all;done)
 refine jU 15002400001 ?_;refine jqsp 11 (fun g33_2=>?_) fun g33_2=>?_
 ·refine jU 516900058000441800044 ?_
  refine jR (jtr (jrt (hv:=?_)))
  refine cB ?_
  rw [lab_eq]
  (simp_all;omega)
 refine jU 1 ?_
 refine jqe (jecP (hasPre_ac l [45]) ?_)
 refine jU 1500 ?_;refine jqsp 15 (fun g33_3=>?_) fun g33_3=>?_
 ·refine jU 51690005800044 ?_
  refine jR (jtr (jrt (hv:=?_)))
  refine cB ?_
  rw [lab_eq]
  (simp_all;done)
 refine jU 1 ?_
 refine jqe (jecP (hasSuf_ac l [45] (by omega)) ?_)
 refine jU 5500 ?_;refine jcc (fun h33=>?_) fun h33=>?_
 ·refine jU 516 ?_
  refine jR (jtr (jrt (hv:=?_)))
  refine cB ?_
  rw [lab_eq]
  (simp_all;done)
 refine jU 205140000167810 ?_;refine l_loop (α:=Nat) [2,3,21,22,23,24,25,26,27,28,29,30,31,32,33,34,35,36] (fun i=>[(21,.c (.int .i64 (i:Nat)))]) (fun _=>[]) (fun i=>i≤l.length∧(l.take i).all lch=true) (fun i=>l.length-i) (0) ?_ (fun _=>rfl) ?_ ?_ ?_
 ·exact ⟨Nat.zero_le _,by simp⟩
 ·exact .cons cZ .nil
 ·(repeat (exact HEnt.nil))
 ·rintro i ⟨hi,he⟩
  refine jU 7526 ?_;refine jcc (fun h36=>?_) fun h36=>?_
  rotate_left
  ·refine jU 51684000200020006000 ?_
   refine jR (jrt (hv:=?_))
   refine cB ?_
   have e:l.take i=l:=List.take_of_length_le (by omega)
   rw [e] at he
   rw [lab_eq,he]
   simp_all
   try omega
  refine jU 75116207810 ?_;refine jcd (.rd 0 (.rd 1 (.rd 2 (.rd 3 (.rd 4 (.rd 5 (.rd 6 (.rd 7 (.rd 8 (.one 9 (.rd 10 (.rd 11 .done)))))))))))) ?_;refine jU 7070 ?_;refine jyq jrix ?_;refine jyq (jrix (i:=0)) ?_;refine jU 70800 ?_;refine jysp 29 (fun g37=>?_) fun g37=>?_
  rotate_left
  ·refine jU 600600600 ?_;refine jys1 ?_;refine jU 8519200840010300880300000600 ?_
   refine jlend (i+1) ?_ ?_ (h5:=?_)
   ·refine ⟨by omega,?_⟩
    rw [take_all (by omega),he,Bool.true_and,← lch_let]
    simp_all
    try omega
   ·show l.length-(i+1)<l.length-i;omega
   ·exact .cons (cI (by omega)) .nil
  refine jU 7070 ?_;refine jyq jrix ?_
  refine jye (jecP (idxB_ac letL (l.getD i 0)) ?_)
  refine jU 8803000000800 ?_;refine jcc (fun h37=>?_) fun h37=>?_
  ·refine jU 516 ?_
   refine jR (jbr (jtr (jtr (jbr (jtr (jrt (hv:=?_)))))))
   refine cB ?_
   rw [lab_eq,all_no (p:=lch) (show i<l.length by omega) (by rw [← lch_let];simp_all;try omega),Bool.and_false]
  refine jU 8519200840010 ?_
  refine jlend (i+1) ?_ ?_ (h5:=?_)
  ·refine ⟨by omega,?_⟩
   rw [take_all (by omega),he,Bool.true_and,← lch_let]
   simp_all
   try omega
  ·show l.length-(i+1)<l.length-i;omega
  ·exact .cons (cI (by omega)) .nil
theorem rlabel_ac {gs:List Nat} (l:List UInt8):ACp gs Tryz.prog 146 [strC l] (.c (.bool (labM l))):=by
 refine ac_of 53 Tryz.func146 rfl rfl rfl (fun al w0 F0 St0=>?_)
 refine jU 1240000167516 ?_;refine jqsp 8 (fun g41=>?_) fun g41=>?_
 ·refine jU 5169000580004444441800044418000444 ?_
  refine jR (jtr (jrt (hv:=?_)))
  refine cB ?_
  refine (Bool.eq_false_iff.2 fun h=>?_).symm
  obtain ⟨k1,k2,k3,k4,_⟩:=labM_iff.1 h
  omega
 refine jU 15002400001 ?_;refine jqsp 13 (fun g41_2=>?_) fun g41_2=>?_
 ·refine jU 51690005800044444418000444 ?_
  refine jR (jtr (jrt (hv:=?_)))
  refine cB ?_
  refine (Bool.eq_false_iff.2 fun h=>?_).symm
  obtain ⟨k1,k2,k3,k4,_⟩:=labM_iff.1 h
  omega
 refine jU 1 ?_;refine jq (jrix (i:=0)) ?_;refine jU 15002 ?_;refine jqsp 18 (fun g41_3=>?_) fun g41_3=>?_
 ·refine jU 516900058000444444 ?_
  refine jR (jtr (jrt (hv:=?_)))
  refine cB ?_
  refine (Bool.eq_false_iff.2 fun h=>?_).symm
  obtain ⟨k1,k2,k3,k4,_⟩:=labM_iff.1 h
  omega
 refine jU 94000011 ?_;refine jq (jrix (i:=(l.length-1)) (hz:=by omega)) ?_;refine jU 55002 ?_;refine jcc (fun h41=>?_) fun h41=>?_
 ·refine jU 516 ?_
  refine jR (jtr (jrt (hv:=?_)))
  refine cB ?_
  refine (Bool.eq_false_iff.2 fun h=>?_).symm
  obtain ⟨k1,k2,k3,k4,_⟩:=labM_iff.1 h
  omega
 refine jU 205167810 ?_;refine l_loop (α:=Nat) [2,3,4,26,27,28,29,30,31,32,33,34,35,36,37,38,39,40,41,42,43,44,45,46,47,48,49,50,51,52] (fun i=>[(3,.c (.int .i64 (i:Nat)))]) (fun _=>[]) (fun i=>i≤l.length∧(l.take i).all lch=true) (fun i=>l.length-i) (0) ?_ (fun _=>rfl) ?_ ?_ ?_
 ·exact ⟨Nat.zero_le _,by simp⟩
 ·exact .cons cZ .nil
 ·(repeat (exact HEnt.nil))
 ·rintro i ⟨hi,he⟩
  refine jU 52400001167 ?_;refine jcc (fun h44=>?_) fun h44=>?_
  rotate_left
  ·refine jU 51684000200020006000 ?_
   refine jR (jrt (hv:=?_))
   refine cB ?_
   have e:l.take i=l:=List.take_of_length_le (by omega)
   rw [e] at he
   exact (labM_iff.2 ⟨by omega,by omega,by omega,by omega,he⟩).symm
  refine jU 5180000000116207810 ?_
  obtain ⟨x,hx⟩:∃ x,x=(l.getD i 0).toNat:=⟨_,rfl⟩
  refine jE (weaken 4 (.c (.int .u8 (x:Nat))) (cI (by rw [hx]))) ?_;refine jU 1216 ?_;refine jqsp 37 (fun g46=>?_) fun g46=>?_
  ·refine jU 1211800044 ?_;refine jqsp 44 (fun g46_2=>?_) fun g46_2=>?_
   ·refine jU 580002118000800044 ?_;refine jcc (fun h46=>?_) fun h46=>?_
    ·refine jU 516 ?_
     refine jR (jbr (jtr (jtr (jbr (jtr (jrt (hv:=?_)))))))
     refine cB ?_
     unfold labM
     rw [all_no (p:=lch) (show i<l.length by omega) (by unfold lch;rw [← hx];simp;omega),Bool.and_false]
    refine jU 85191200840010 ?_
    refine jlend (i+1) ?_ ?_ (h5:=?_)
    ·refine ⟨by omega,?_⟩
     rw [take_all (by omega),he,Bool.true_and]
     unfold lch
     rw [← hx]
     simp
     omega
    ·show l.length-(i+1)<l.length-i;omega
    ·exact .cons (cI (by omega)) .nil
   refine jU 1800050021 ?_;refine jqsp 49 (fun g46_3=>?_) fun g46_3=>?_
   rotate_left
   ·refine jU 85191200840010300550044 ?_
    refine jlend (i+1) ?_ ?_ (h5:=?_)
    ·refine ⟨by omega,?_⟩
     rw [take_all (by omega),he,Bool.true_and]
     unfold lch
     rw [← hx]
     simp
     omega
    ·show l.length-(i+1)<l.length-i;omega
    ·exact .cons (cI (by omega)) .nil
   refine jU 5800021 ?_;refine jcc (fun h46=>?_) fun h46=>?_
   ·refine jU 516 ?_
    refine jR (jbr (jtr (jtr (jbr (jtr (jrt (hv:=?_)))))))
    refine cB ?_
    unfold labM
    rw [all_no (p:=lch) (show i<l.length by omega) (by unfold lch;rw [← hx];simp;omega),Bool.and_false]
   refine jU 85191200840010 ?_
   refine jlend (i+1) ?_ ?_ (h5:=?_)
   ·refine ⟨by omega,?_⟩
    rw [take_all (by omega),he,Bool.true_and]
    unfold lch
    rw [← hx]
    simp
    omega
   ·show l.length-(i+1)<l.length-i;omega
   ·exact .cons (cI (by omega)) .nil
  refine jU 150021 ?_;refine jqsp 41 (fun g46_2=>?_) fun g46_2=>?_
  rotate_left
  ·refine jU 851912008400103005500441500444444 ?_
   refine jlend (i+1) ?_ ?_ (h5:=?_)
   ·refine ⟨by omega,?_⟩
    rw [take_all (by omega),he,Bool.true_and]
    unfold lch
    rw [← hx]
    simp
    omega
   ·show l.length-(i+1)<l.length-i;omega
   ·exact .cons (cI (by omega)) .nil
  refine jU 121 ?_;refine jqsp 44 (fun g46_3=>?_) fun g46_3=>?_
  ·refine jU 580002118000800044 ?_;refine jcc (fun h46=>?_) fun h46=>?_
   ·refine jU 516 ?_
    refine jR (jbr (jtr (jtr (jbr (jtr (jrt (hv:=?_)))))))
    refine cB ?_
    unfold labM
    rw [all_no (p:=lch) (show i<l.length by omega) (by unfold lch;rw [← hx];simp;omega),Bool.and_false]
   refine jU 85191200840010 ?_
   refine jlend (i+1) ?_ ?_ (h5:=?_)
   ·refine ⟨by omega,?_⟩
    rw [take_all (by omega),he,Bool.true_and]
    unfold lch
    rw [← hx]
    simp
    omega
   ·show l.length-(i+1)<l.length-i;omega
   ·exact .cons (cI (by omega)) .nil
  refine jU 1800050021 ?_;refine jqsp 49 (fun g46_4=>?_) fun g46_4=>?_
  rotate_left
  ·refine jU 85191200840010300550044 ?_
   refine jlend (i+1) ?_ ?_ (h5:=?_)
   ·refine ⟨by omega,?_⟩
    rw [take_all (by omega),he,Bool.true_and]
    unfold lch
    rw [← hx]
    simp
    omega
   ·show l.length-(i+1)<l.length-i;omega
   ·exact .cons (cI (by omega)) .nil
  refine jU 5800021 ?_;refine jcc (fun h46=>?_) fun h46=>?_
  ·refine jU 516 ?_
   refine jR (jbr (jtr (jtr (jbr (jtr (jrt (hv:=?_)))))))
   refine cB ?_
   unfold labM
   rw [all_no (p:=lch) (show i<l.length by omega) (by unfold lch;rw [← hx];simp;omega),Bool.and_false]
  refine jU 85191200840010 ?_
  refine jlend (i+1) ?_ ?_ (h5:=?_)
  ·refine ⟨by omega,?_⟩
   rw [take_all (by omega),he,Bool.true_and]
   unfold lch
   rw [← hx]
   simp
   omega
  ·show l.length-(i+1)<l.length-i;omega
  ·exact .cons (cI (by omega)) .nil
end
section
variable {gs:List Nat} [Ok9 gs]

theorem asked_ac [OkT gs] (l:List UInt8) (most:Int) (hl:l.length≤1000000000):ACp gs Tryz.prog 225 [strC l,.c (.int .i64 most)] (.err (askedM l most)):=by
 refine ac_of 20 Tryz.func225 rfl rfl rfl (fun al w0 F0 St0=>?_)
 refine jU 516000016207516 ?_;refine jcc (fun h47=>?_) fun h47=>?_
 ·refine jcr ?_;refine jq (jrde 1) ?_;refine jU 51 ?_
  refine jR (jbr (jtr (jrt (hv:=CEnt.errN (by unfold askedM;rw [if_pos (by simpa using h47)])))))
 refine jU 51214000016 ?_;refine jcc (fun h49=>?_) fun h49=>?_
 ·refine jcr ?_;refine jq (jrde 2) ?_;refine jU 51 ?_
  refine jR (jbr (jtr (jrt (hv:=CEnt.errN (by unfold askedM;rw [if_neg (by simpa using h47),if_pos h49])))))
 refine jU 16 ?_
 refine jqe (jecP (plain07_ac l hl) ?_)
 refine jU 5130 ?_;refine jcc (fun h51=>?_) fun h51=>?_
 ·refine jcr ?_;refine jq (jrde 7) ?_;refine jU 51 ?_
  refine jR (jbr (jtr (jrt (hv:=CEnt.errN (by unfold askedM;rw [if_neg (by simpa using h47),if_neg h49,if_pos (by simpa using h51)])))))
 refine jU 516840010 ?_
 refine jR (jrt (hv:=CEnt.nilE (by unfold askedM;rw [if_neg (by simpa using h47),if_neg h49,if_neg (by simpa using h51)])))
theorem xput_ac [OkT gs] (l:List UInt8) (most:Int) (hl:l.length≤1000000000):ACp gs Tryz.prog 176 [strC l,.c (.int .i64 most)] (.tup 2 (fl [bsC (if askedM l most=0 then l else []),.err (askedM l most)])):=by
 refine ac_of 15 Tryz.func176 rfl rfl rfl (fun al w0 F0 St0=>?_)
 refine jU 11675116 ?_
 refine jqe (jecP (asked_ac l most hl) ?_)
 refine jU 55000001651 ?_;refine jcc (fun h59=>?_) fun h59=>?_
 ·refine jU 51116 ?_
  refine jR (jtr (jrt (hv:=cT (CEnt.nilS' (by rw [if_neg h59];rfl)) cZ)))
 refine jU 16810 ?_
 refine jqe (jecv ?_)
 refine jU 511 ?_
 refine jR (jrt (hv:=?_))
 have h:askedM l most=0:=by omega
 exact cT (CEnt.bs (by rw [if_pos h])) (CEnt.nilE h)
theorem xget_ac [OkT gs] (l:List UInt8) (most:Int) (hl:l.length≤1000000000):ACp gs Tryz.prog 196 [bsC l,.c (.int .i64 most)] (.tup 2 (fl [strC (if askedM l most=0 then l else []),.err (askedM l most)])):=by
 refine ac_of 17 Tryz.func196 rfl rfl rfl (fun al w0 F0 St0=>?_)
 refine jU 165116 ?_
 first|refine jq jrbs ?_|refine jqo jrbo ?_|refine jq jrbn ?_
 refine jU 116751 ?_
 refine jqe (jecP (asked_ac l most hl) ?_)
 refine jU 55000001651 ?_;refine jcc (fun h68=>?_) fun h68=>?_
 ·refine jU 51116 ?_
  refine jR (jtr (jrt (hv:=cT (CEnt.strL (by rw [if_neg h68])) cZ)))
 refine jU 51116810 ?_
 refine jR (jrt (hv:=?_))
 have h:askedM l most=0:=by omega
 exact cT (CEnt.strL (by rw [if_pos h])) (CEnt.nilE h)
theorem rasked_ac {gs:List Nat} (l:List UInt8) (most:Int) (hl:l.length≤1000000000):ACp gs Tryz.prog 206 [strC l,.c (.int .i64 most)] (.c (.int .i64 (askedM l most:Nat))):=by
 refine ac_of 15 Tryz.func206 rfl rfl rfl (fun al w0 F0 St0=>?_)
 refine jU 5240000167516 ?_;refine jcc (fun h55=>?_) fun h55=>?_
 ·refine jU 516 ?_
  refine jR (jtr (jrt (hv:=cI (by unfold askedM;rw [if_pos (by omega)];rfl))))
 refine jU 52140000167810 ?_;refine jcc (fun h58=>?_) fun h58=>?_
 ·refine jU 516 ?_
  refine jR (jtr (jrt (hv:=cI (by unfold askedM;rw [if_neg (by omega),if_pos h58];rfl))))
 refine jU 167810 ?_
 refine jqe (jecP (rplain_ac l hl) ?_)
 refine jU 530 ?_;refine jcc (fun h61=>?_) fun h61=>?_
 ·refine jU 516 ?_
  refine jR (jtr (jrt (hv:=cI (by unfold askedM;rw [if_neg (by omega),if_neg h58,if_pos (by simpa using h61)];rfl))))
 refine jU 516810 ?_
 refine jR (jrt (hv:=cI (by unfold askedM;rw [if_neg (by omega),if_neg h58,if_neg (by simpa using h61)];rfl)))
end
section
variable {gs:List Nat} [Ok9 gs]
open Go.RowKit Cal

theorem doneW_ac (n:Nat) (s:W8) (hs:OkW s):AC gs Tryz.prog 58 [wrO n s] [.op 0 (some n) 0] (fun r H'=>r=.tup 2 (fl [bsC (doneB s),.err (doneK s)])∧H'=[wrO n s]):=by
 have hsd:=hs.d
 have bad:∀ {e},doneK s=e→e≠0→doneB s=[]:=fun h h0=>by unfold doneB;rw [h,if_neg h0]
 refine ac_of 35 Tryz.func58 rfl rfl rfl (fun al w0 F0 St0=>?_)
 refine jU 2075116 ?_;refine code_openW 0 rfl fun go gd zs hzs=>?_;refine jU 515000005010004016 ?_;refine jcc (fun h140=>?_) fun h140=>?_
 ·refine jcs ?_;refine jcd (.rd 0 (.rd 1 (.rd 2 (.rd 3 (.rd 4 (.rd 5 .done)))))) ?_;refine jU 5000070 ?_;refine jyq (jrfa 2 1 false) ?_;refine jU 300050007000880707010000 ?_
  have e:doneK s=s.k:=by unfold doneK;rw [if_pos (by omega)]
  exact end_packV (gd:=fun z:WZ8 s.fr=>z.1.1) (E:=wrE s) (.inl rfl) ⟨(n,go,gd,zs),hzs⟩ [0,1,2,3] (by decide) rfl (res_2 rfl javt javt) (cT (by rw [bad e (by omega)];exact cN) (CEnt.err e.symm))
 refine jU 512350904016 ?_;refine jcc (fun h142=>?_) fun h142=>?_
 ·refine jcs ?_;refine jcd (.rd 0 (.rd 1 (.rd 2 .done))) ?_;refine jyq (jrde 23) ?_;refine jU 3000500070008807070 ?_
  have e:doneK s=24:=by unfold doneK;rw [if_neg (by omega),if_pos (by intro h;rw [h] at h142;simp at h142)]
  exact end_packV (gd:=fun z:WZ8 s.fr=>z.1.1) (E:=wrE s) (.inl rfl) ⟨(n,go,gd,zs),hzs⟩ [0,1,2,3] (by decide) rfl (res_2 rfl javt javt) (cT (by rw [bad e (by omega)];exact cN) (CEnt.err e.symm))
 refine jU 5123501004016 ?_;refine jcc (fun h144=>?_) fun h144=>?_
 ·refine jcs ?_;refine jcd (.rd 0 (.rd 1 (.rd 2 .done))) ?_;refine jyq (jrde 2) ?_;refine jU 3000500070008807070 ?_
  have hf0:s.fr=[]:=List.eq_nil_of_length_eq_zero (by omega)
  have e:doneK s=3:=by unfold doneK;rw [if_neg (by omega),if_neg (by simp [hf0]),if_pos (by omega)]
  exact end_packV (gd:=fun z:WZ8 s.fr=>z.1.1) (E:=wrE s) (.inl rfl) ⟨(n,go,gd,zs),hzs⟩ [0,1,2,3] (by decide) rfl (res_2 rfl javt javt) (cT (by rw [bad e (by omega)];exact cN) (CEnt.err e.symm))
 refine jU 501004016840010 ?_
 refine jqm (jmcH 2 (cloneO_ac s.d gd (by omega)) ?_)
 rintro _ _ ⟨rfl,rfl⟩
 refine ⟨_,_,rfl,cZ,?_⟩
 refine jU 7000511 ?_
 have hf0:s.fr=[]:=List.eq_nil_of_length_eq_zero (by omega)
 have e:doneK s=0:=by unfold doneK;rw [if_neg (by omega),if_neg (by simp [hf0]),if_neg (by omega)]
 exact end_packV (gd:=fun z:WZ8 s.fr=>z.1.1) (E:=wrE s) (.inl rfl) ⟨(n,go,gd,zs),hzs⟩ [0,1,2,3] (by decide) rfl (res_2 rfl javt javt) (cT (CEnt.bs (by unfold doneB;rw [if_pos e])) (CEnt.nilE e))
theorem intW_ac (n:Nat) (s:W8) (z:Int) (hz:-9223372036854775808≤z∧z≤9223372036854775807) (hs:OkW s):AC gs Tryz.prog 97 [wrO n s] [.op 0 (some n) 0,.c (.int .i64 z)] (fun r H'=>r=.c (.tuple #[])∧H'=[wrO n (putW 2 (putN z) 0 s)]):=by
 have hl:=(putN_len z hz.1 hz.2).2
 refine ac_of 8 Tryz.func97 rfl rfl rfl (fun al w0 F0 St0=>?_)
 refine jU 11200 ?_
 refine jqe (jecP (wput_ac z hz.1 hz.2) ?_)
 refine jqm (jmcH 0 (putW_ac n s 2 (putN z) 0 hs (by omega)) ?_)
 rintro _ _ ⟨rfl,rfl⟩
 refine ⟨_,_,rfl,cZ,?_⟩
 refine jU 5 ?_
 exact end_own (.inr rfl) _ [_] [0] (by decide) rfl (res_0 rfl) ⟨rfl,rfl⟩
theorem enumW_ac (n:Nat) (s:W8) (z:Int) (hz:-9223372036854775808≤z∧z≤9223372036854775807) (hs:OkW s):AC gs Tryz.prog 143 [wrO n s] [.op 0 (some n) 0,.c (.int .i64 z)] (fun r H'=>r=.c (.tuple #[])∧H'=[wrO n (putW 10 (putN z) 0 s)]):=by
 have hl:=(putN_len z hz.1 hz.2).2
 refine ac_of 8 Tryz.func143 rfl rfl rfl (fun al w0 F0 St0=>?_)
 refine jU 11200 ?_
 refine jqe (jecP (wput_ac z hz.1 hz.2) ?_)
 refine jqm (jmcH 0 (putW_ac n s 10 (putN z) 0 hs (by omega)) ?_)
 rintro _ _ ⟨rfl,rfl⟩
 refine ⟨_,_,rfl,cZ,?_⟩
 refine jU 5 ?_
 exact end_own (.inr rfl) _ [_] [0] (by decide) rfl (res_0 rfl) ⟨rfl,rfl⟩
theorem octetsW_ac (n:Nat) (s:W8) (b:List UInt8) (hb:b.length≤1000000) (hs:OkW s):AC gs Tryz.prog 56 [wrO n s] [.op 0 (some n) 0,bsC b] (fun r H'=>r=.c (.tuple #[])∧H'=[wrO n (putW 4 b 0 s)]):=by
 refine ac_of 7 Tryz.func56 rfl rfl rfl (fun al w0 F0 St0=>?_)
 refine jU 11200 ?_
 refine jqm (jmcH 0 (putW_ac n s 4 b 0 hs hb) ?_)
 rintro _ _ ⟨rfl,rfl⟩
 refine ⟨_,_,rfl,cZ,?_⟩
 refine jU 5 ?_
 exact end_own (.inr rfl) _ [_] [0] (by decide) rfl (res_0 rfl) ⟨rfl,rfl⟩
theorem textW_ac [OkT gs] (n:Nat) (s:W8) (t:List UInt8) (most:Int) (ht:t.length≤1000000) (hs:OkW s):AC gs Tryz.prog 105 [wrO n s] [.op 0 (some n) 0,strC t,.c (.int .i64 most)] (fun r H'=>r=.c (.tuple #[])∧H'=[wrO n (putW 12 (if askedM t most=0 then t else []) (askedM t most) s)]):=by
 have hl:(if askedM t most=0 then t else []).length≤1000000:=by split <;> first|omega|simp
 refine ac_of 18 Tryz.func105 rfl rfl rfl (fun al w0 F0 St0=>?_)
 refine jU 116 ?_
 refine jqe (jecP (xput_ac t most (by omega)) ?_)
 refine jU 1112005119009001 ?_
 refine jqm (jmcH 0 (putW_ac n s 12 (if askedM t most=0 then t else []) (askedM t most) hs hl) ?_)
 rintro _ _ ⟨rfl,rfl⟩
 refine ⟨_,_,rfl,cZ,?_⟩
 refine jU 5 ?_
 exact end_own (.inr rfl) _ [_] [0] (by decide) rfl (res_0 rfl) ⟨rfl,rfl⟩
theorem momentW_ac (n:Nat) (s:W8) (z:Int) (hs:OkW s):AC gs Tryz.prog 101 [wrO n s] [.op 0 (some n) 0,.c (.int .i64 z)] (fun r H'=>r=.c (.tuple #[])∧H'=[wrO n (putW 24 (if inT z then bodyL (ofM z) else []) (ofE z) s)]):=by
 have hbl:(if inT z then bodyL (ofM z) else []).length≤1000000:=by
  split
  ·exact Nat.le_trans (Nat.le_of_eq (show (bodyL (ofM z)).length=15 from rfl)) (by decide)
  ·simp
 refine ac_of 15 Tryz.func101 rfl rfl rfl (fun al w0 F0 St0=>?_)
 refine jU 16 ?_
 refine jqe (jecP (put_ac z) ?_)
 refine jU 1112005119009001 ?_
 refine jqm (jmcH 0 (putW_ac n s 24 (if inT z then bodyL (ofM z) else []) (ofE z) hs hbl) ?_)
 rintro _ _ ⟨rfl,rfl⟩
 refine ⟨_,_,rfl,cZ,?_⟩
 refine jU 5 ?_
 exact end_own (.inr rfl) _ [_] [0] (by decide) rfl (res_0 rfl) ⟨rfl,rfl⟩
theorem oidW_ac (n:Nat) (s:W8) (t:List UInt8) (ht:t.length≤1000000) (hs:OkW s):AC gs Tryz.prog 173 [wrO n s] [.op 0 (some n) 0,strC t] (fun r H'=>r=.c (.tuple #[])∧H'=[wrO n (putW 6 (putM t) (parseM t).2 s)]):=by
 have hl:(putM t).length≤1000000:=Nat.le_trans (put_len t) (by decide)
 refine ac_of 15 Tryz.func173 rfl rfl rfl (fun al w0 F0 St0=>?_)
 refine jU 16 ?_
 refine jqe (jecP (oput_ac t (by omega)) ?_)
 refine jU 1112005119009001 ?_
 refine jqm (jmcH 0 (putW_ac n s 6 (putM t) (parseM t).2 hs hl) ?_)
 rintro _ _ ⟨rfl,rfl⟩
 refine ⟨_,_,rfl,cZ,?_⟩
 refine jU 5 ?_
 exact end_own (.inr rfl) _ [_] [0] (by decide) rfl (res_0 rfl) ⟨rfl,rfl⟩
end
section
variable {gs:List Nat} [Ok9 gs]
open Go.RowKit Cal

def w0W:W8:=⟨[],[],0⟩
theorem take_set_out {α:Type} (l:List α) (n i:Nat) (x:α) (h:n≤i):(l.set i x).take n=l.take n:=by
 rw [List.take_set,List.set_eq_of_length_le]
 rw [List.length_take];omega
theorem newW {G:Gh} {env:List (Nat×CV)} {b0:Nat→CV} {H:List (Option Nat×Res)} (n i:Nat) {f:Nat→CV} (hi:H[i]?=some (some n,.blk 3 f)) (h0:CEnt (f 0) (.c (.slice none 0 0))) (h1:CEnt (f 1) (.c (.slice none 0 0))) (h2:CEnt (f 2) (.err 0)):EntS G ⟨env,b0,H⟩ ⟨env,b0,H.set i (wrO n w0W)⟩:=by
 have hil:=(List.getElem?_eq_some_iff.1 hi).1
 have os0:∀ {j k:Nat},CEnt (.c (.slice none 0 0)) (.os j none 0 0 k):=fun al St w v h=>⟨rfl,h⟩
 intro St a w hr
 obtain ⟨S1,s1,r1⟩:=ent_none (G:=G) (s:=⟨env,b0,H⟩) (rowF 2 frF frD []) St a w hr
 obtain ⟨S2,s2,r2⟩:=ent_none (G:=G) (s:=⟨env,b0,H++[(none,.blk 0 (rowF 2 frF frD []))]⟩) (byF []) S1 a w r1
 obtain ⟨S3,s3,r3⟩:=bag_new (G:=G) (env:=env) (b0:=b0) (H:=H++[(none,.blk 0 (rowF 2 frF frD []))]++[(none,.blk 0 (byF []))]) S2 a w r2
 obtain ⟨S4,s4,r4⟩:=closeW (G:=G) (env:=env) (b0:=b0) (H:=H++[(none,.blk 0 (rowF 2 frF frD []))]++[(none,.blk 0 (byF []))]++[bagE []]) n w0W [] i H.length (H.length+1) (H.length+2) rfl (go:=none) (gd:=none) (No:=0) (Nd:=0) (f:=f) (Fo:=rowF 2 frF frD []) (Fd:=byF [])
  (by rw [List.append_assoc,List.append_assoc,List.getElem?_append_left hil];exact hi) (by simp) (by simp []) (by simp []) (by simp;omega) (h0.trans os0) (h1.trans os0) h2 (Nat.le_refl _) (fun a h=>absurd h (Nat.not_lt_zero a)) (Nat.le_refl _) (fun a h=>absurd h (Nat.not_lt_zero a)) S3 a w r3
 obtain ⟨S5,s5,r5⟩:=pick_ent (G:=G) (H':=H.set i (wrO n w0W)) (List.range H.length) (range_nodup _) (by
  rw [pickL_range _ _ (by simp)]
  simp only [List.append_assoc]
  rw [take_set_out _ _ _ _ (by omega),take_set_out _ _ _ _ (by omega),take_set_out _ _ _ _ (by omega),List.take_set,List.take_left]) S4 a w r4
 exact ⟨S5,fun b hb=>s5 b (s4 b (s3 b (s2 b (s1 b hb)))),r5⟩
theorem ok0:OkW w0W:=⟨by decide,fun _ h=>(by cases h),by decide⟩
def w1W:W8:=⟨[(48,[])],[],0⟩
def w2W:W8:=⟨[(48,[[2,1,5]])],[],0⟩
def w3W:W8:=⟨[],[48,3,2,1,5],0⟩
def valC (v:VV):CV:=.agg 5 (fl [.c (.int .i64 v.kind),.c (.int .i64 v.n),.c (.bool v.is),bsC v.b,strC v.t])
structure OkV (v:VV):Prop where
 n:-9223372036854775808≤v.n∧v.n≤9223372036854775807
 b:v.b.length≤1000000
 t:v.t.length≤1000000
end
section
variable {gs:List Nat} [Ok9 gs]
open Go.RowKit Cal

theorem rput08_ac {gs:List Nat} (n:Nat) (s:R8) (tag:Int) (b:List UInt8) (hs:OkR s) (ht:0≤tag∧tag<256) (hb:b.length≤1000000):AC gs Tryz.prog 155 [rwO n s] [.op 0 (some n) 0,.c (.int .i64 tag),bsC b] (fun r H'=>r=.c (.tuple #[])∧H'=[rwO n (rputS tag b s)]):=by
 refine ac_of 17 Tryz.func155 rfl rfl rfl (fun al w0 F0 St0=>?_)
 refine jU 523167 ?_;refine jcc (fun h64=>?_) fun h64=>?_
 ·refine code_openRW 0 rfl fun gr=>?_;refine jU 10004016 ?_
  refine jqm (jmstF 1 (rwB ⟨s.tags,s.rows,3⟩ 1 gr) ?_ ?_)
  ·exact (fun j hj=>by rcases j with _|_|_|j <;> exact cZ)
  refine jU 300070005 ?_
  have hP:rputS tag b s=⟨s.tags,s.rows,3⟩:=by unfold rputS;rw [if_pos (by omega)]
  rw [hP]
  exact end_closeRW (.inl rfl) n ⟨s.tags,s.rows,3⟩ 1 (res_0 rfl) cZ rfl rfl rfl (by exact cZ) (by exact cO rfl) (by exact cZ) (Nat.le_refl _) (fun _ _=>by exact cZ)
 refine jU 111200810 ?_
 refine jqe (jecP (rput_ac tag b ht (by omega)) ?_)
 refine jqm (jmcH 0 (radd08_ac n s (putL tag b) hs) ?_)
 rintro _ _ ⟨rfl,rfl⟩
 refine ⟨_,_,rfl,cZ,?_⟩
 refine jU 5 ?_
 have hP:rputS tag b s=raddS (putL tag b) s:=by unfold rputS;rw [if_neg (by omega)]
 rw [hP]
 exact end_own (.inr rfl) _ [_] [0] (by decide) rfl (res_0 rfl) ⟨rfl,rfl⟩
def BodyQ (v:VV):CV→List (Option Nat×Res)→Prop:=fun r H'=>(∃ b,r=.tup 3 (fl [.c (.int .i64 (bodyV v).1),bsC b,.c (.int .i64 ((bodyV v).2.2:Nat))])∧((bodyV v).2.2=0→b=(bodyV v).2.1))∧H'=[]
theorem bodyQ {v:VV} {t:Int} {b b':List UInt8} {e:Nat} (h:bodyV v=(t,b,e)) (hb:e=0→b'=b):BodyQ v (.tup 3 (fl [.c (.int .i64 t),bsC b',.c (.int .i64 (e:Nat))])) []:=by
 refine ⟨⟨b',by rw [h],fun h0=>by rw [h] at h0 ⊢;exact hb h0⟩,rfl⟩
end
section
variable {gs:List Nat} [Ok9 gs]
open Go.RowKit Cal

structure OkRD (s:R8):Prop where
 ok:OkR s
 sum:∀ j,sumL (s.rows.getD j [])≤1000000
 tag:∀ x ∈ s.tags,0≤x∧x<256
 lt:s.tags.length≠0→s.tags.length<s.rows.length
theorem rdone08_ac {gs:List Nat} (n:Nat) (s:R8) (hs:OkRD s):AC gs Tryz.prog 82 [rwO n s] [.op 0 (some n) 0] (fun r H'=>r=.tup 2 (fl [bsC (rdoneB s),.c (.int .i64 (rdoneE s:Nat))])∧H'=[rwO n s]):=by
 have hk0:=okR_at hs.ok 0
 have hs0:=hs.sum 0
 have bad:∀ {e},rdoneE s=e→e≠0→rdoneB s=[]:=fun h h0=>by unfold rdoneB;rw [h,if_neg h0]
 refine ac_of 48 Tryz.func82 rfl rfl rfl (fun al w0 F0 St0=>?_)
 refine jU 75116 ?_;refine code_openRW 0 rfl fun gr=>?_;refine jU 525010004016 ?_;refine jcc (fun h133=>?_) fun h133=>?_
 ·refine jcs ?_;refine jcd (.rd 0 (.rd 1 (.rd 2 (.rd 3 (.rd 4 (.rd 5 .done)))))) ?_;refine jU 5000070 ?_;refine jyq (jrfa 2 1 false) ?_;refine jU 30007000880707010000 ?_
  have e:rdoneE s=s.e:=by unfold rdoneE;rw [if_pos (by omega)]
  exact end_closeRW (.inl rfl) n s 1 (res_2 rfl javt javt) (cT (by rw [bad e (by omega)];exact cN) (cI (by rw [e]))) rfl rfl rfl (by exact cZ) (by exact cO rfl) (by exact cZ) (Nat.le_refl _) (fun _ _=>by exact cZ)
 refine jU 523509040167810 ?_;refine jcc (fun h136=>?_) fun h136=>?_
 ·refine jU 300070005116 ?_
  have e:rdoneE s=24:=by unfold rdoneE;rw [if_neg (by omega),if_pos (by omega)]
  exact end_closeRW (.inl rfl) n s 1 (res_2 rfl javt javt) (cT (by rw [bad e (by omega)];exact cN) (cI (by rw [e];rfl))) rfl rfl rfl (by exact cZ) (by exact cO rfl) (by exact cZ) (Nat.le_refl _) (fun _ _=>by exact cZ)
 refine jU 6810 ?_
 refine jqe (jebl 0 1 zr5 fun p1=>?_)
 refine jU 523501004016751 ?_;refine jcc (fun h140=>?_) fun h140=>?_
 rotate_left
 ·refine jU 7810 ?_
  first
   |(have hiE:i=(s.rows.getD 0 []).length:=by omega
     subst hiE
     dsimp only
     rw [List.take_length] at *
     have hfl:=flat_len (s.rows.getD 0 []))
   |(have h00:s.rows.getD 0 []=[]:=by rw [List.getD_eq_getElem?_getD,List.getElem?_eq_none (by omega)];rfl
     have hfl:((s.rows.getD 0 []).flatten).length=0:=by rw [h00];rfl)
  refine jU 52316 ?_;refine jcc (fun h145=>?_) fun h145=>?_
  ·refine jU 300070005116 ?_
   first
    |(exfalso;simp at h145;done)
    |(have e:rdoneE s=3:=by unfold rdoneE;rw [if_neg (by omega),if_neg (by omega),if_pos (by omega)]
      exact end_closeRW (.inl rfl) n s 1 (res_2 rfl javt javt) (cT (by rw [bad e (by omega)];exact cN) (cI (by rw [e];rfl))) rfl rfl rfl (by exact cZ) (by exact cO rfl) (by exact cZ) (Nat.le_refl _) (fun _ _=>by exact cZ))
  refine jU 51116810 ?_;refine jE (freeze 2 rfl) ?_
  first
   | refine jE (thawB 2 ((s.rows.getD 0 []).flatten) rfl rfl rfl rfl) ?_
   | refine jE (thawBL 2 [] rfl rfl rfl rfl .nil) ?_
  refine jU 7000 ?_
  have e:rdoneE s=0:=by unfold rdoneE;rw [if_neg (by omega),if_neg (by omega),if_neg (by omega)]
  exact end_closeRW (.inl rfl) n s 1 (res_2 rfl javt javt) (cT (CEnt.bs (by unfold rdoneB;rw [if_pos e];(rw [h00];rfl))) (cI (by rw [e];rfl))) rfl rfl rfl (by exact cZ) (by exact cO rfl) (by exact cZ) (Nat.le_refl _) (fun _ _=>by exact cZ)
 refine jU 20513502000000501004016 ?_;refine l_loop (α:=Nat×Option Nat) [4,6,36,37,38,39,40,41,42,43] (fun (i,g)=>[(4,.os 2 g 0 (((s.rows.getD 0 []).take i).flatten).length 1),(36,.c (.int .i64 (i:Nat)))]) (fun (i,g)=>[(some n,.blk 3 (rwB s 1 gr)),(gr,.blk s.rows.length (rowsF s.rows)),(g,.blk (((s.rows.getD 0 []).take i).flatten).length (byF ((s.rows.getD 0 []).take i).flatten))]) (fun i=>i.1≤(s.rows.getD 0 []).length) (fun i=>(s.rows.getD 0 []).length-i.1) ((0,p1)) ?_ (fun _=>rfl) ?_ ?_ ?_
 ·exact Nat.zero_le _
 ·exact .cons (cO rfl) (.cons cZ .nil)
 ·exact .same (.same (.blk rfl (fun j hj=>absurd hj (Nat.not_lt_zero j)) .nil))
 ·rintro ⟨i,g⟩ (hi:i≤(s.rows.getD 0 []).length)
  refine jU 7526 ?_;refine jcc (fun h141=>?_) fun h141=>?_
  ·refine jU 51607006207810 ?_
   have hf1:=sumL_take (ls:=s.rows.getD 0 []) (i:=i) (by omega)
   have hf2:=sumL_le (s.rows.getD 0 []) (i+1)
   have hf3:=flat_len ((s.rows.getD 0 []).take i)
   refine jU 11200 ?_
   refine jqm (m_appendB rfl rfl rfl (Nat.le_refl _) (fun _ _=>cZ) (src_rs rfl) rfl (fun j hj=>by simp only [Nat.div_one];exact cZ) Tryz.underlying22 nu22 sz5 zr5 by5 rfl (by omega) (fun j hj=>rfl) rfl rfl (fun p2=>?_))
   refine jU 8519200840051 ?_
   refine jlend ((i+1,p2)) ?_ ?_ (h5:=?_) (h7:=?_)
   ·show i+1≤(s.rows.getD 0 []).length;omega
   ·show (s.rows.getD 0 []).length-(i+1)<(s.rows.getD 0 []).length-i;omega
   ·simp only [flat_take (show i<(s.rows.getD 0 []).length by omega)]
    exact .cons (cO rfl) (.cons (cI (by omega)) .nil)
   ·simp only [flat_take (show i<(s.rows.getD 0 []).length by omega)]
    exact .same (.same (.same .nil))
  refine jU 784000200020006000 ?_
  first
   |(have hiE:i=(s.rows.getD 0 []).length:=by omega
     subst hiE
     dsimp only
     rw [List.take_length] at *
     have hfl:=flat_len (s.rows.getD 0 []))
   |(have h00:s.rows.getD 0 []=[]:=by rw [List.getD_eq_getElem?_getD,List.getElem?_eq_none (by omega)];rfl
     have hfl:((s.rows.getD 0 []).flatten).length=0:=by rw [h00];rfl)
  refine jU 52316 ?_;refine jcc (fun h145=>?_) fun h145=>?_
  ·refine jU 300070005116 ?_
   first
    |(exfalso;simp at h145;done)
    |(have e:rdoneE s=3:=by unfold rdoneE;rw [if_neg (by omega),if_neg (by omega),if_pos (by omega)]
      exact end_closeRW (.inl rfl) n s 1 (res_2 rfl javt javt) (cT (by rw [bad e (by omega)];exact cN) (cI (by rw [e];rfl))) rfl rfl rfl (by exact cZ) (by exact cO rfl) (by exact cZ) (Nat.le_refl _) (fun _ _=>by exact cZ))
  refine jU 51116810 ?_;refine jE (freeze 2 rfl) ?_
  first
   | refine jE (thawB 2 ((s.rows.getD 0 []).flatten) rfl rfl rfl rfl) ?_
   | refine jE (thawBL 2 [] rfl rfl rfl rfl .nil) ?_
  refine jU 7000 ?_
  have e:rdoneE s=0:=by unfold rdoneE;rw [if_neg (by omega),if_neg (by omega),if_neg (by omega)]
  exact end_closeRW (.inl rfl) n s 1 (res_2 rfl javt javt) (cT (CEnt.bs (by unfold rdoneB;rw [if_pos e];done)) (cI (by rw [e];rfl))) rfl rfl rfl (by exact cZ) (by exact cO rfl) (by exact cZ) (Nat.le_refl _) (fun _ _=>by exact cZ)
end
end Am
end Go.Proofs.YthlpfjnkieaeeaaGreatDoor
