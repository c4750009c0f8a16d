/- What the law leans on, part 5: W05b, W05c, W05d, W05e, Laid, Tab, V8, P07e, W07p, P07c, W07, L07, W07q, W08m, W08n, W08v, W08w, W08x, P08b, W08a, W08b, W08c, W08d, W08e, W08f, SsJ, W05f, W05g, W05h, W06c, P06c, W06d, W06e, W08g, W08h, W08p -/
import Derived.Test.YteolfpolmioalaaGreatDoorM4NamesWrites
import Derived.Test.YteolfpolmioalaaGreatDoorRows
import Derived.LaidLaws
import Derived.MakeChecks
import Derived.Lib.LaidU8T
import Derived.Shelf.Unicode.ValidAny

set_option maxRecDepth 100000
namespace Go.Proofs.YteolfpolmioalaaGreatDoor
set_option linter.unusedVariables false
namespace Am
section
variable {gs:List Nat} [Ok2 gs]
open Go.RowKit

theorem sep_int (n:Nat):(((UInt8.ofNat (n % 128)).toNat:Nat):Int)=(n:Int) % 128:=by
 rw [UInt8.toNat_ofNat'];omega
theorem sep_int2 (n:Nat):(((UInt8.ofNat (n % 128+128)).toNat:Nat):Int)=(n:Int) % 128+128:=by
 rw [UInt8.toNat_ofNat'];omega
theorem septets_ac {gs:List Nat} (N:Nat) (hN:N<34359738368):AC gs Tryz.prog 129 [] [.c (.int .i64 (N:Nat))] (OwnQ (sepL N).length 1 (sepL N).length (byF (sepL N))):=by
 have hlen:=sepL_len hN
 refine ac_of 24 Tryz.func129 rfl rfl rfl (fun al w0 F0 St0=>?_)
 refine jcr ?_;refine jq jrm ?_;refine jN ?_;refine jcr ?_;refine jq jrm ?_;refine jq jrr ?_;refine jq (jrv .i64 .u8) ?_
 refine jqe (jebl 1 1 zr5 fun p1=>?_)
 refine jq jrm ?_;refine jN ?_;refine jcs ?_;refine jcr ?_;refine jq jrm ?_;refine jq jrq ?_;refine jq jrm ?_;refine jN ?_;refine jB ?_;refine l_loop (α:=Nat×List UInt8×Option Nat) [0,3,10,11,12,13,14,15,16,17,18,19,20] (fun (m,o,g)=>[(0,.c (.int .i64 (m:Nat))),(3,.os 0 g 0 o.length 1)]) (fun (m,o,g)=>[(g,.blk o.length (byF o))]) (fun (m,o,g)=>m≤N∧sepL N=sepHi m++o.reverse∧0<o.length) (fun (m,o,g)=>m) ((N / 128,[UInt8.ofNat (N % 128)],p1)) ?_ (fun _=>rfl) ?_ ?_ ?_
 ·exact ⟨Nat.div_le_self _ _,rfl,Nat.one_pos⟩
 ·exact .cons (CEnt.int (by omega)) (.cons cZ .nil)
 ·exact .blk rfl (fun j hj=>fl_by (l2:=[UInt8.ofNat (N % 128)]) (.cons (CEnt.int (sep_int N).symm) .nil) j hj) .nil
 ·rintro ⟨m,o,g⟩ ⟨(hm:m≤N),hd,ho0⟩
  have ho:o.length≤5:=by have:=congrArg List.length hd;simp only [List.length_append,List.length_reverse] at this;omega
  refine jcs ?_;refine jcr ?_;refine jq jrm ?_;refine jq jrc ?_;refine jN ?_;refine jcc (fun h60=>?_) fun h60=>?_
  rotate_left
  ·refine jX (jte (jte (jbx (jtn ?_))))
   have hm0:m=0:=by omega
   rw [hm0,sepHi_zero,List.nil_append] at hd
   refine jcr ?_;refine jq jrm ?_
   refine jqm (jmcH 0 (reverse8_ac _ o (by omega)) ?_)
   rintro _ _ ⟨rfl,rfl⟩
   refine ⟨_,_,rfl,cZ,?_⟩
   refine jN ?_;refine jcr ?_;refine jq jrm ?_;refine jq jrm ?_;refine jN ?_;refine jR ?_
   exact end_O 0 (.inl rfl) (res_1 rfl (arv_tmp rfl)) rfl (by rw [hd,List.length_reverse]) (by rw [hd];exact Nat.le_refl _) (fun _=>by rw [hd]) (fun j hj=>by rw [hd];exact cZ)
  refine jS (jtn ?_)
  refine jcs ?_;refine jB ?_;refine jcg ?_;refine jq jrm ?_;refine jq jrm ?_;refine jq jrr ?_;refine jq jra ?_;refine jq (jrv .i64 .u8) ?_
  refine jqe (jebl 1 1 zr5 fun p2=>?_)
  refine jqm (m_appendB (l2:=[UInt8.ofNat (m % 128+128)]) rfl rfl rfl (Nat.le_refl _) (fun _ _=>cZ) (src_os rfl (.inl rfl) (by decide)) rfl (hh_bytes (.cons (CEnt.int ((sep_int2 m).symm)) .nil)) Tryz.underlying22 nu22 sz5 zr5 by5 rfl (by (simp;omega)) (leaf_fl rfl rfl) rfl rfl (fun p3=>?_))
  refine jq jrm ?_;refine jN ?_
  refine jbn (jtn ?_)
  refine jcg ?_;refine jq jrm ?_;refine jq jrq ?_;refine jq jrm ?_;refine jN ?_;refine jtn ?_
  refine jlend ((m / 128,o++[UInt8.ofNat (m % 128+128)],p3)) ?_ ?_ (h5:=?_)
  ·exact ⟨by omega,by rw [hd,sepHi_pos (show m≠0 by omega),List.reverse_append,List.append_assoc];rfl,by simp⟩
  ·show m / 128<m;omega
  ·exact .cons (CEnt.int (by omega)) (.cons cZ .nil)
theorem snoc7 {l:List UInt8} {i:Nat} (h:i<l.length):valSO (l.take (i+1))=valSO (l.take i) * 128+(l.getD i 0).toNat % 128:=by
 rw [List.take_succ_eq_append_getElem h,valSO_snoc]
 simp [List.getD,h]
theorem valS_le {l:List UInt8} (i:Nat):valSO (l.take i)≤valSO l:=by
 have key:∀ (r:List UInt8) (a:List UInt8),valSO a≤valSO (a++r):=by
  intro r
  induction r with
  | nil=>simp
  | cons c r ih =>
   intro a
   have h1:=ih (a++[c])
   rw [valSO_snoc] at h1
   rw [show a++c::r=a++[c]++r by simp]
   have:valSO a≤valSO a * 128:=by omega
   omega
 have:=key (l.drop i) (l.take i)
 rwa [List.take_append_drop] at this
theorem numM_pos {r:List UInt8} {most:Nat} {x:Nat×Nat} (h:numM r most=x):(numM r most).1=x.1∧(numM r most).2=x.2:=by rw [h];exact ⟨rfl,rfl⟩
theorem number_ac {gs:List Nat} [Ok9 gs] (r:List UInt8) (most:Nat) (hr:0<r.length) (hm:most≤9999999999):ACp gs Tryz.prog 161 [bsC r,.c (.int .i64 (most:Nat))] (.tup 2 (fl [.c (.int .i64 ((numM r most).1:Nat)),.err (numM r most).2])):=by
 refine ac_len 0 rfl fun hlen=>?_
 refine ac_of 42 Tryz.func161 rfl rfl rfl (fun al w0 F0 St0=>?_)
 refine jcr ?_;refine jq jrm ?_;refine jq jrm ?_;refine jN ?_;refine jcs ?_;refine jB ?_;refine jcr ?_;refine jq jrm ?_;refine jq jrm ?_;refine jq jrl ?_;refine jq jra ?_;refine jq (jri (i:=(r.length-1)) (hz:=by omega)) ?_;refine jq jrdr ?_;refine jq jrc ?_;refine jq jrm ?_;refine jN ?_;refine jcc (fun h99=>?_) fun h99=>?_
 ·refine jcs ?_;refine jcd (.rd 0 (.rd 1 (.rd 2 .done))) ?_;refine jyq (jrde 1) ?_;refine jyq jrm ?_;refine jyq jrm ?_;refine jyd ?_;refine jtn ?_
  refine jR (jbr (jtr (jrt (hv:=?_))))
  have hb:=numM_pos (r:=r) (most:=most) (x:=(0,2)) (by unfold numM;rw [if_pos (by omega)])
  exact CEnt.tup2 (CEnt.int (by rw [hb.1];rfl)) (CEnt.errN hb.2)
 refine jcr ?_;refine jq jrm ?_;refine jq (jri (i:=0)) ?_;refine jq jrdr ?_;refine jq jrc ?_;refine jq jrm ?_;refine jN ?_;refine jcc (fun h101=>?_) fun h101=>?_
 ·refine jcs ?_;refine jcd (.rd 0 (.rd 1 (.rd 2 .done))) ?_;refine jyq (jrde 3) ?_;refine jyq jrm ?_;refine jyq jrm ?_;refine jyd ?_;refine jtn ?_
  refine jR (jbr (jtr (jrt (hv:=?_))))
  have hb:=numM_pos (r:=r) (most:=most) (x:=(0,4)) (by unfold numM;rw [if_neg (by omega),if_pos (by omega)])
  exact CEnt.tup2 (CEnt.int (by rw [hb.1];rfl)) (CEnt.errN hb.2)
 refine jS (jbn (jtn ?_))
 refine jcr ?_;refine jq jrm ?_;refine jN ?_;refine jcs ?_;refine jcr ?_;refine jq jrm ?_;refine jq jrl ?_;refine jq jrm ?_;refine jN ?_;refine jB ?_;refine l_loop (α:=Nat) [4,5,6,8,26,27,28,29,30,31,32,33,34,35,36,37,38,39,40] (fun i=>[(6,.c (.int .i64 (valSO (r.take i):Nat))),(26,.c (.int .i64 (i:Nat)))]) (fun _=>[]) (fun i=>i≤r.length∧valSO (r.take i)≤most) (fun i=>r.length-i) (0) ?_ (fun _=>rfl) ?_ ?_ ?_
 ·exact ⟨Nat.zero_le _,by simp [valSO]⟩
 ·(repeat (first|exact EntE.nil|refine EntE.cons cZ ?_|refine EntE.cons (CEnt.int (by omega)) ?_))
 ·(repeat (first|exact HEnt.nil|refine HEnt.same ?_|refine HEnt.blk rfl (fun j hj=>by rcases j with _|_|_|_|_|_|_|_|j <;> first|exact cZ|exact CEnt.int (by omega)|omega) ?_))
 ·rintro i ⟨(hi:i≤r.length),hv⟩
  refine jcr ?_;refine jq jrc ?_;refine jN ?_;refine jcs ?_;refine jcc (fun h105=>?_) fun h105=>?_
  rotate_left
  ·refine jX (jte (jte (jbx (jtn ?_))))
   refine jcr ?_;refine jq jrm ?_;refine jq jrm ?_;refine jq jrm ?_;refine jN ?_
   refine jR (jrt (hv:=?_))
   have hi2:i=r.length:=by omega
   rw [hi2,List.take_length] at hv
   have hb:=numM_pos (r:=r) (most:=most) (x:=(valSO r,0)) (by unfold numM;rw [if_neg (by omega),if_neg (by omega),if_neg (by omega)])
   exact CEnt.tup2 (CEnt.int (by rw [hb.1,hi2,List.take_length])) (CEnt.errN hb.2)
  refine jS (jtn ?_)
  refine jcs ?_;refine jB ?_;refine jcr ?_;refine jq jri ?_;refine jq jrdr ?_;refine jq jrm ?_;refine jN ?_;refine jcr ?_;refine jq jrm ?_;refine jq jra ?_;refine jq jrm ?_;refine jq jrr ?_;refine jq (jrv .u8 .i64) ?_;refine jq jra ?_;refine jq jrm ?_;refine jN ?_;refine jcr ?_;refine jq jrm ?_;refine jq jrm ?_;refine jq jrc ?_;refine jN ?_;refine jcc (fun h107=>?_) fun h107=>?_
  rotate_left
  ·refine jS (jbn (jtn ?_))
   refine jcg ?_;refine jq jra ?_;refine jq jrm ?_;refine jN ?_;refine jtn ?_
   refine jlend (i+1) ?_ ?_ (h5:=?_)
   ·exact ⟨by omega,by rw [snoc7 (by omega)];omega⟩
   ·show r.length-(i+1)<r.length-i;omega
   ·exact .cons (CEnt.int (by rw [snoc7 (by omega)];omega)) (.cons (CEnt.int (by omega)) .nil)
  refine jcs ?_;refine jcd (.rd 0 (.rd 1 (.rd 2 .done))) ?_;refine jyq (jrde 0) ?_;refine jyq jrm ?_;refine jyq jrm ?_;refine jyd ?_;refine jtn ?_
  refine jR (jbr (jtr (jtr (jbr (jtr (jrt (hv:=?_)))))))
  have h9:=snoc7 (l:=r) (i:=i) (by omega)
  have h8:=valS_le (l:=r) (i+1)
  have hb:=numM_pos (r:=r) (most:=most) (x:=(0,1)) (by unfold numM;rw [if_neg (by omega),if_neg (by omega),if_pos (by omega)])
  exact CEnt.tup2 (CEnt.int (by rw [hb.1];rfl)) (CEnt.errN hb.2)

theorem index1_ac {gs:List Nat} (a:List UInt8) (c:UInt8):ACp gs Tryz.prog 187 [strC a,strC [c]] (.c (.int .i64 (Lib.indexByte a c))) :=
 ac_old fun al w St vals hs hv hr=>by
  rw [vals2 hv,show vals.getD 0 undef=.string ⟨a.toArray⟩ from hr 0,show vals.getD 1 undef=.string ⟨#[c]⟩ from hr 1]
  exact (Tryz.strings_Index_one _ _ w).mono (by rintro e w' ⟨rfl,rfl⟩;exact ⟨by simp,Below.refl _ _⟩)
theorem idx_cut (c:UInt8):∀ l:List UInt8,(Lib.indexByte l c<0∧splitC c l=[l])∨∃ p r,l=p++c::r∧Lib.indexByte l c=(p.length:Nat)∧splitC c l=p::splitC c r
 | []=>.inl ⟨by simp [Lib.indexByte],rfl⟩
 | x::l=>by
  by_cases hx:x=c
  ·subst hx
   refine .inr ⟨[],l,rfl,?_,?_⟩
   ·simp [Lib.indexByte]
   ·simp [splitC]
  ·rcases idx_cut c l with ⟨h1,h2⟩|⟨p,r,h1,h2,h3⟩
   ·refine .inl ⟨?_,?_⟩
    ·have:=Lib.indexByte_ge l c
     have e:Lib.indexByte l c=-1:=by omega
     simp [Lib.indexByte,hx,e]
    ·rw [splitC,if_neg hx,h2];rfl
   ·refine .inr ⟨x::p,r,by rw [h1];rfl,?_,?_⟩
    ·have e:¬ Lib.indexByte l c=-1:=by omega
     simp [Lib.indexByte,hx,h2];try omega
    ·rw [splitC,if_neg hx,h3];rfl
def seqF (f:FuncId) (c:UInt8) (g:Option Nat):CV:=.fn f 3 (fl [.rp 1 fun _=>strC [c],.op 0 g 0,.rp 1 fun _=>.c (.int .i64 0)])
theorem split_ac {gs:List Nat} (s:List UInt8) (c:UInt8):AC gs Tryz.prog 164 [] [strC s,strC [c],.c (.int .i64 0)] (fun r H'=>∃ g,r=seqF 185 c g∧H'=[(g,.blk 1 (fun _=>strC s))]):=by
 refine ac_of 8 Tryz.func164 rfl rfl rfl (fun al w0 F0 St0=>?_)
 refine jcr ?_
 refine jqe (jebx 1 fun p1=>?_)
 refine jqe (jebx 1 fun p2=>?_)
 refine jqe (jebx 1 fun p3=>?_)
 refine jq jrm ?_;refine jN ?_;refine jE (freeze 1 rfl) ?_;refine jE (freeze 2 rfl) ?_;refine jE (thawP (m:=1) 4 rfl rfl (by decide)) ?_;refine jE (thawP (m:=1) 5 rfl rfl (by decide)) ?_;refine jE (blk_ent 0 (m:=1) (F:=fun _=>strC s) rfl (Nat.le_refl _) (fun _=>rfl) (fun j hj=>by obtain rfl:j=0:=(by omega);exact cZ)) ?_;refine jcr ?_;refine jq jrmf ?_;refine jq jrm ?_;refine jN ?_;refine jR ?_
 exact end_own (.inl rfl) (seqF 185 c p1) _ [0] (by decide) rfl ((res_1 rfl (arv_tmp rfl)).ent (by refine CEnt.fn3 (CEnt.rp ?_) CEnt.opI (CEnt.rp ?_) <;> (intro j hj;obtain rfl:j=0:=(by omega);exact cZ))) ⟨_,rfl,rfl⟩
theorem splitSeq_ac {gs:List Nat} (s:List UInt8) (c:UInt8):AC gs Tryz.prog 150 [] [strC s,strC [c]] (fun r H'=>∃ g,r=seqF 185 c g∧H'=[(g,.blk 1 (fun _=>strC s))]):=by
 refine ac_of 8 Tryz.func150 rfl rfl rfl (fun al w0 F0 St0=>?_)
 refine jcr ?_;refine jq jrm ?_;refine jN ?_;refine jcr ?_;refine jq jrm ?_;refine jq jrm ?_
 refine jqe (jecS (split_ac s c) ?_)
 rintro _ _ ⟨p1,rfl,rfl⟩
 refine jq jrm ?_;refine jN ?_;refine jR ?_
 exact end_own (.inl rfl) _ _ [0] (by decide) rfl (res_1 rfl (arv_tmp rfl)) ⟨_,rfl,rfl⟩
theorem parts_drop {c:UInt8} {s rest:List UInt8} {k:Nat} (h:(splitC c s).drop k=splitC c rest):k<(splitC c s).length:=by
 have:=splitC_ne c rest
 rw [← h] at this
 apply Classical.byContradiction
 intro hn
 exact this (List.drop_eq_nil_of_le (by omega))
theorem drop_getD {α:Type} {l:List α} {k:Nat} {d x:α} {r:List α} (h:l.drop k=x::r):l.getD k d=x∧l.drop (k+1)=r:=by
 have h1:l[k]?=some x:=by
  have:=congrArg (fun m=>m[0]?) h
  simpa using this
 exact ⟨by simp [List.getD,h1],by rw [← List.drop_drop,h];rfl⟩
theorem seq_iter {gs:List Nat} (s:List UInt8) (c:UInt8) (g:Option Nat) (hs:s.length≤100000000000):IterC gs Tryz.prog 185 [(g,.blk 1 (fun _=>strC s))] ((List.range 3).map (fl [.rp 1 fun _=>strC [c],.op 0 g 0,.rp 1 fun _=>.c (.int .i64 0)])) (splitC c s).length (fun k=>[strC ((splitC c s).getD k [])]):=fun l J Jx hY=>by
 refine ac_ofY true 52 Tryz.func185 rfl rfl rfl (fun al w0 F0 St0=>?_)
 refine jcs ?_;refine jcr ?_;refine jq jrdr ?_;refine jq jrls ?_;refine jq jrc ?_;refine jN ?_;refine jcc (fun h38=>?_) fun h38=>?_
 ·exfalso;simp at h38
 refine jS (jtn ?_)
 refine jcs ?_;refine jB ?_;refine l_loop (α:=Nat×List UInt8) [7,8,29,30,31,32,33,34,35,36,37,38,39,40,41,42,43,44,45,46,47,48] (fun _=>[]) (fun (k,rest)=>[(g,.blk 1 (fun _=>strC rest)),(some l,.obj (J k))]) (fun (k,rest)=>(splitC c s).drop k=splitC c rest∧rest.length≤s.length) (fun (k,rest)=>rest.length) ((0,s)) ?_ (fun _=>rfl) ?_ ?_ ?_
 ·exact ⟨rfl,Nat.le_refl _⟩
 ·exact .nil
 ·exact .same (.same .nil)
 ·rintro ⟨k,rest⟩ ⟨hk,hlen⟩
  have hkl:=parts_drop hk
  have hcut:=idx_cut c rest
  refine jB ?_;refine jcr ?_;refine jqo jrdo ?_;refine jq jrdr ?_
  refine jqe (jecP (index1_ac rest c) ?_)
  refine jq jrm ?_;refine jN ?_;refine jcs ?_;refine jcr ?_;refine jq jrm ?_;refine jq jrc ?_;refine jN ?_;refine jcc (fun h50=>?_) fun h50=>?_
  ·refine jX (jte (jbx2 (jte (jbx (jtn ?_)))))
   refine jcg ?_;refine jq jrm ?_
   have hsp:splitC c rest=[rest]:=by
    rcases hcut with h|⟨q,r,_,h,_⟩
    ·exact h.2
    ·omega
   have hk2:=drop_getD (d:=[]) (hk.trans hsp)
   have hm:(splitC c s).length=k+1:=by
    have:=congrArg List.length hk2.2
    simp at this
    omega
   refine jqo jrdo ?_
   refine seq_mdI (wanted_none rfl) rfl (m_callY (i:=1) rfl rfl rfl (hY k hkl) (.cons (se rfl (CEnt.strL hk2.1.symm)) .nil) rfl rfl ?_)
   rintro _ _ (⟨rfl,rfl⟩|⟨rfl,rfl⟩)
   ·refine ⟨_,_,rfl,cZ,?_⟩
    refine jN ?_
    exact end_own (.inr rfl) _ _ [1] (by decide) rfl (res_0 rfl) (.inl (by rw [hm];rfl))
   ·refine ⟨_,_,rfl,cZ,?_⟩
    refine jN ?_
    exact end_own (.inr rfl) _ _ [1] (by decide) rfl (res_0 rfl) (.inr rfl)
  refine jS (jtn ?_)
  obtain ⟨q,r,hr,hi,hsp⟩:∃ q r,rest=q++c::r∧Lib.indexByte rest c=(q.length:Nat)∧splitC c rest=q::splitC c r:=by
   rcases hcut with h|h
   ·omega
   ·exact h
  have hk2:=drop_getD (d:=[]) (hk.trans hsp)
  have hql:q.length<rest.length:=by rw [hr];simp
  refine jcr ?_;refine jqo jrdo ?_;refine jq jrm ?_;refine jq jrdr ?_;refine jq jra ?_;refine jq (rd_sliceLT rfl rfl Tryz.underlying9 rfl (show _=((q.length:Nat):Int) by omega) (by (omega))) ?_;refine jq jrm ?_;refine jN ?_;refine jcs ?_;refine jcr ?_;refine jq jrm ?_;refine jq jrm ?_
  refine seq_mdI (wanted_none rfl) rfl (m_callY (i:=1) rfl rfl rfl (hY k hkl) (.cons (se rfl (CEnt.strL (by rw [hk2.1,hr];simp))) .nil) rfl rfl ?_)
  rintro _ _ (⟨rfl,rfl⟩|⟨rfl,rfl⟩)
  ·refine ⟨_,_,rfl,cZ,?_⟩
   refine jq jrn ?_;refine jN ?_;refine jcF ?_
   refine jS (jtn ?_)
   refine jcg ?_;refine jqo (jrdo (hn:=by (omega))) ?_;refine jq jrm ?_;refine jq (jrdr (hn:=by (omega))) ?_;refine jq jrls ?_;refine jq (jra (hS:=by show _∧_;((simp only [List.length_cons,List.length_nil];omega)))) ?_;refine jq (rd_sliceLF rfl rfl Tryz.underlying9 rfl (show _=(((q.length+1):Nat):Int) by (simp only [List.length_append,List.length_cons,List.length_nil];omega)) (by (omega))) ?_
   refine jqm (jmst 1 ?_ (hn:=by (omega)))
   refine jN ?_
   refine jbn (jtn ?_)
   refine jlend ((k+1,rest.drop (q.length+1))) ?_ ?_ (h5:=?_) (h7:=?_)
   ·exact ⟨by rw [hk2.2,hr];simp,by rw [List.length_drop];omega⟩
   ·show (rest.drop (q.length+1)).length<rest.length;rw [List.length_drop];omega
   ·exact .nil
   ·exact .blk rfl (fun j hj=>by obtain rfl:j=0:=(by omega);exact cZ) (.same .nil)
  ·refine ⟨_,_,rfl,cZ,?_⟩
   refine jq jrn ?_;refine jN ?_;refine jcT ?_
   refine jR (jtr (jbr (jtr (jbr (jtr ?_)))))
   exact end_own (.inl rfl) _ _ [1] (by decide) rfl (res_0 rfl) (.inr rfl)
end
section
variable {gs:List Nat} [Ok2 gs]
open Go.RowKit

theorem CEnt.nilO {i k:Nat}:CEnt (.c (.slice none 0 0)) (.os i none 0 0 k):=fun al St w v h=>⟨rfl,h⟩
theorem split_len (c:UInt8):∀ l:List UInt8,(splitC c l).length≤l.length+1
 | []=>by simp [splitC]
 | x::l=>by
  have ih:=split_len c l
  rw [splitC]
  split
  ·simp;omega
  ·have h:∀ ls:List (List UInt8),ls≠[]→(consHead x ls).length=ls.length:=fun ls h=>by cases ls <;> simp_all [consHead]
   rw [h _ (splitC_ne c l)]
   simp;omega
theorem part_len {c:UInt8}:∀ {l p:List UInt8},p ∈ splitC c l→p.length≤l.length
 | [],p,h=>by simp [splitC] at h;simp [h]
 | x::l,p,h=>by
  rw [splitC] at h
  split at h
  ·rcases List.mem_cons.1 h with rfl|h
   ·simp
   ·have:=part_len h;simp;omega
  ·cases hs:splitC c l with
   | nil=>exact absurd hs (splitC_ne c l)
   | cons q r =>
    rw [hs,consHead] at h
    rcases List.mem_cons.1 h with rfl|h
    ·have:=part_len (c:=c) (l:=l) (p:=q) (by rw [hs];exact List.mem_cons_self ..)
     simp;omega
    ·have:=part_len (c:=c) (l:=l) (p:=p) (by rw [hs];exact List.mem_cons_of_mem _ h)
     simp;omega
theorem take_get {α:Type} {l:List α} {k:Nat} (d:α) (h:k<l.length):l.take (k+1)=l.take k++[l.getD k d]:=by
 rw [List.take_succ_eq_append_getElem h]
 simp [List.getD,h]
theorem getD_mem' {α:Type} {l:List α} {k:Nat} (d:α) (h:k<l.length):l.getD k d ∈ l:=by
 simp [List.getD,h]
theorem parse_bad {s:List UInt8} (h:(splitC 46 s).all okP=false):(parseM s).1=[]∧(parseM s).2=4:=by
 unfold parseM;rw [if_pos h];exact ⟨rfl,rfl⟩
theorem parse_wrong {s:List UInt8} (h:(splitC 46 s).all okP=true) (h2:rightA ((splitC 46 s).map valP)=false):(parseM s).1=[]∧(parseM s).2=1:=by
 unfold parseM;rw [if_neg (by simp [h]),if_pos h2];exact ⟨rfl,rfl⟩
theorem parse_good {s:List UInt8} (h:(splitC 46 s).all okP=true) (h2:rightA ((splitC 46 s).map valP)=true):(parseM s).1=(splitC 46 s).map valP∧(parseM s).2=0:=by
 unfold parseM;rw [if_neg (by simp [h]),if_neg (by simp [h2])];exact ⟨rfl,rfl⟩
theorem all_false {α:Type} {p:α→Bool} {l:List α} {k:Nat} (d:α) (h:k<l.length) (hp:p (l.getD k d)=false):l.all p=false:=by
 cases e:l.all p with
 | false=>rfl
 | true =>
  have:=List.all_eq_true.1 e _ (getD_mem' d h)
  rw [hp] at this;cases this
set_option maxHeartbeats 1000000 in
theorem oparse_ac (s:List UInt8) (hs:s.length≤1000000000):ACp gs Tryz.prog 128 [strC s] (.tup 2 (fl [isC (parseM s).1,.err (parseM s).2])):=by
 have hpl:=split_len 46 s
 refine ac_of 33 Tryz.func128 rfl rfl rfl (fun al w0 F0 St0=>?_)
 refine jcr ?_
 refine jqe (jeal (n:=1) zr51 rfl fun p1=>?_)
 refine jqe (jeal (n:=1) zr28 rfl fun p2=>?_)
 refine jN ?_;refine jcr ?_
 refine jqe (jeal (n:=1) zr51 rfl fun p3=>?_)
 refine jN ?_;refine jcs ?_;refine jcr ?_;refine jq jrm ?_
 refine jqe (jecS (splitSeq_ac s 46) ?_)
 rintro _ _ ⟨gS,rfl,rfl⟩
 refine jN ?_;refine jB ?_;refine jE (blk_ent 0 (m:=1) (F:=fun _=>.c (.slice none 0 0)) rfl (Nat.le_refl _) (fun _=>rfl) (fun j hj=>by obtain rfl:j=0:=(by omega);exact cZ)) ?_;refine jE (blk_ent 1 (m:=1) (F:=fun _=>.c .nilIface) rfl (Nat.le_refl _) (fun _=>rfl) (fun j hj=>by obtain rfl:j=0:=(by omega);exact cZ)) ?_;refine jE (blk_ent 2 (m:=1) (F:=fun _=>.os 3 none 0 0 1) rfl (Nat.le_refl _) (fun _=>rfl) (fun j hj=>by obtain rfl:j=0:=(by omega);exact CEnt.nilO)) ?_;refine jE (ent_none (inF [])) ?_;refine code_range (π:=List Int×Option Nat) (q:=List Int×Option Nat) ((splitC 46 s).length) (fun k=>[strC ((splitC 46 s).getD k [])]) ([(gS,.blk 1 (fun _=>strC s))]) (fun (X,ga)=>[(p1,.blk 1 (fun _=>.c (.slice none 0 0))),(p2,.blk 1 (fun _=>.c .nilIface)),(p3,.blk 1 (fun _=>.os 3 ga 0 X.length 1)),(ga,.blk X.length (inF X))]) (fun k (X,ga)=>X=((splitC 46 s).take k).map valP∧((splitC 46 s).take k).all okP=true) (fun (X,ga)=>[(p1,.blk 1 (fun _=>.c (.slice none 0 0))),(p2,.blk 1 (fun _=>.err 4)),(p3,.blk 1 (fun _=>.os 3 ga 0 X.length 1)),(ga,.blk X.length (inF X))]) (fun c _=>c=.ret∧(splitC 46 s).all okP=false) (([],none)) [3,0,1,2,4] rfl rfl (by kernel_rfl) (seq_iter s 46 gS (by omega)) (⟨rfl,rfl⟩) (by decide) rfl (fun _ _=>rfl) rfl ?_ ?_ ?_
 ·intro k hk l al2 w2 F2 S2 R0 R1
  rintro ⟨X,ga⟩ ⟨hX,hall⟩
  have hXl:X.length≤k:=by rw [hX,List.length_map,List.length_take];omega
  have hpp:=part_len (getD_mem' (l:=splitC 46 s) [] hk)
  refine jcg ?_;refine jq jrm ?_;refine jN ?_;refine assign_norm ?_;refine jB ?_;refine jcr ?_;refine jq jrm ?_
  refine jqe (jecP (wfig_ac ((splitC 46 s).getD k [])) ?_)
  refine jq jrm ?_;refine jq jrx ?_;refine jq jrx ?_;refine jq jrm ?_;refine jq jrm ?_;refine jN ?_;refine jcs ?_;refine jcr ?_;refine jq jrm ?_;refine jq jre ?_;refine jq jrm ?_;refine jqsp 18 (fun g34=>?_) fun g34=>?_
  ·refine jqs ?_;refine jqs ?_;refine jqs ?_;refine jq jrpT ?_;refine jN ?_;refine jcT ?_;refine jcs ?_;refine jcdZ (.rd 0 (.one 1 (.one 2 .done))) ?_;refine jzq (jrde 3) ?_
   refine jzm (jmst 1 ?_)
   refine jzm (jmst 1 ?_)
   refine jzd ?_;refine jtn ?_
   refine jR (jtr (jbr ?_))
   refine round_ret ((X,ga)) ?_ rfl ?_
   ·exact ⟨rfl,all_false [] hk (by unfold okP;(simp_all;done))⟩
   ·exact .blk rfl (fun j hj=>by obtain rfl:j=0:=(by omega);exact cZ) (.blk rfl (fun j hj=>by obtain rfl:j=0:=(by omega);exact cZ) (.same (.same (.same .nil))))
  refine jq jrm ?_;refine jq jrls ?_;refine jq jrc ?_;refine jq jrpF ?_;refine jN ?_;refine jcc (fun h34=>?_) fun h34=>?_
  ·refine jcs ?_;refine jcdZ (.rd 0 (.one 1 (.one 2 .done))) ?_;refine jzq (jrde 3) ?_
   refine jzm (jmst 1 ?_)
   refine jzm (jmst 1 ?_)
   refine jzd ?_;refine jtn ?_
   refine jR (jtr (jbr ?_))
   refine round_ret ((X,ga)) ?_ rfl ?_
   ·exact ⟨rfl,all_false [] hk (by unfold okP;(simp_all;omega))⟩
   ·exact .blk rfl (fun j hj=>by obtain rfl:j=0:=(by omega);exact cZ) (.blk rfl (fun j hj=>by obtain rfl:j=0:=(by omega);exact cZ) (.same (.same (.same .nil))))
  refine jS (jtn ?_)
  refine jcg ?_;refine jqo jrdo ?_;refine jq jrm ?_
  refine jqe (jebl 1 1 zr3 fun p4=>?_)
  refine jqm (m_appendC rowC_in (l2:=[valP ((splitC 46 s).getD k [])]) rfl rfl rfl rfl (by exact Nat.le_of_eq (Nat.mul_one _)) (fun _ _=>cZ) (src_os rfl (.inl rfl) (by decide)) rfl (hh_ints (.cons (CEnt.int (rfl)) .nil)) Tryz.underlying51 nu51 sz3 zr3 by3 rfl (by (simp;omega)) (by (simp;omega)) (leaf_flk rfl rfl) rfl rfl (Nat.mul_one _) (fun p5=>?_))
  refine jqm (jmst 1 ?_)
  refine jN ?_;refine jbn ?_;refine round_norm ((X++[valP ((splitC 46 s).getD k [])],p5)) ?_ rfl ?_
  ·exact ⟨by rw [hX,take_get [] hk,List.map_append];rfl,by rw [take_get [] hk,List.all_append,hall];simp only [List.all_cons,List.all_nil,Bool.and_true,Bool.true_and,okP];(simp_all;omega)⟩
  ·exact .same (.same (.blk rfl (fun j hj=>by obtain rfl:j=0:=(by omega);exact cZ) (.same (.same .nil))))
 ·rintro ⟨X,ga⟩ ⟨hX,hall⟩
  rw [List.take_length] at hX hall
  refine jbn (jtn ?_)
  refine jcs ?_;refine jcr ?_;refine jqo jrdo ?_;refine seq_ent (freeze 3 rfl) ?_;refine seq_ent (thawIL 28 X rfl rfl rfl (Nat.ble_eq_true_of_le (Nat.le_refl _)) (fun j hj=>cZ)) ?_
  refine jqe (jecP (oright_ac X) ?_)
  refine jq jrn ?_;refine jN ?_;refine jcc (fun h39=>?_) fun h39=>?_
  ·refine jcs ?_;refine jcdZ (.rd 0 (.one 1 (.one 2 .done))) ?_;refine jzq (jrde 0) ?_
   refine jzm (jmst 1 ?_)
   refine jzm (jmst 1 ?_)
   refine jzd ?_;refine jtn ?_
   refine jR (jtr (jrt (hres:=res_2 rfl javc javc) (hv:=?_)))
   have hb:=parse_wrong hall (by rw [← hX];simpa using h39)
   exact CEnt.tup2 (CEnt.nilS' (by rw [hb.1];rfl)) (CEnt.errN hb.2)
  refine jS (jtn ?_)
  refine jcr ?_;refine jqo jrdo ?_;refine seq_ent (thawIL 32 X rfl rfl rfl (Nat.ble_eq_true_of_le (Nat.le_refl _)) (fun j hj=>cZ)) ?_
  refine jqm (jmst 1 ?_)
  refine jqm (jmst 1 ?_)
  refine jN ?_
  refine jR (jrt (hres:=res_2 rfl javc javc) (hv:=?_))
  have hb:=parse_good hall (by rw [← hX];simpa using h39)
  exact CEnt.tup2 (show CEnt (isC X) _ from CEnt.of_eq (by rw [hb.1,hX])) (CEnt.nilE hb.2)
 ·rintro _ ⟨X,ga⟩ ⟨rfl,hbad⟩
  refine .inl ⟨rfl,?_⟩
  refine jbr (jtr (jrt (hres:=res_2 rfl javc javc) (hv:=?_)))
  have hb:=parse_bad hbad
  exact CEnt.tup2 (CEnt.nilS' (by rw [hb.1];rfl)) (CEnt.errN hb.2)
end
section
variable {gs:List Nat} [Ok2 gs]
open Go.RowKit

def cmpI (a b:Int):Int:=if a<b then -1 else if b<a then 1 else 0
def underM (s t:List UInt8):Bool:=decide ((parseM s).2=0) && decide ((parseM t).2=0) && underA (parseM s).1 (parseM t).1
end
section
variable {gs:List Nat} [Ok2 gs]
open Go.RowKit

theorem parse_ok {s:List UInt8} (h:(parseM s).2=0):rightA (parseM s).1=true:=(parse_right (s:=s) (l:=(parseM s).1) (by rw [← h])).1
theorem sep_take {l:List Int} {i:Nat} (h:i<(l.drop 2).length):(((l.drop 2).take (i+1)).map fun n=>sepL n.toNat).flatten=(((l.drop 2).take i).map fun n=>sepL n.toNat).flatten++sepL (l.getD (2+i) 0).toNat:=by
 rw [take_get 0 h,List.map_append,List.flatten_append]
 simp [List.getD]
theorem sep_flat_len {l:List Int} (h:∀ n ∈ l,0≤n∧n≤2147483647):((l.map fun n=>sepL n.toNat).flatten).length≤5 * l.length:=by
 induction l with
 | nil=>simp
 | cons a l ih =>
  have h1:=sepL_len (n:=a.toNat) (by have:=h a (by simp);omega)
  have h2:=ih fun n hn=>h n (by simp [hn])
  simp at h2 ⊢
  omega
set_option maxHeartbeats 1000000 in
theorem oput_ac (s:List UInt8) (hs:s.length≤1000000000):ACp gs Tryz.prog 96 [strC s] (.tup 2 (fl [bsC (putM s),.err (parseM s).2])):=by
 refine ac_of 39 Tryz.func96 rfl rfl rfl (fun al w0 F0 St0=>?_)
 refine jcr ?_;refine jq jrm ?_;refine jq jrm ?_;refine jN ?_;refine jcr ?_;refine jq jrm ?_
 refine jqe (jecP (oparse_ac s hs) ?_)
 refine jq jrm ?_;refine jq jrx ?_;refine jq jrx ?_;refine jq jrm ?_;refine jq jrm ?_;refine jN ?_;refine jcs ?_;refine jcr ?_;refine jq jrm ?_;refine jq jre ?_;refine jN ?_;refine jcc (fun h70=>?_) fun h70=>?_
 ·refine jcr ?_;refine jq jrm ?_;refine jq jrm ?_;refine jq jrm ?_;refine jN ?_
  refine jR (jtr (jrt (hv:=CEnt.tup2 (CEnt.nilS' (by unfold putM;rw [if_neg (by omega)];rfl)) cZ)))
 refine jS (jtn ?_)
 refine jcs ?_
 obtain ⟨hl2,hl16,hall,ha,hb⟩:=right_at (parse_ok (s:=s) (by omega))
 obtain ⟨l,hl⟩:∃ l,(parseM s).1=l:=⟨_,rfl⟩
 rw [hl] at hl2 hl16 hall ha hb ⊢
 have h0:=hall _ (getD_mem' (l:=l) (k:=0) 0 (by omega))
 have h1:=hall _ (getD_mem' (l:=l) (k:=1) 0 (by omega))
 refine jcd (.rd 0 (.rd 1 (.rd 2 (.rd 3 (.rd 4 (.rd 5 (.rd 6 (.rd 7 (.one 8 (.rd 9 .done)))))))))) ?_;refine jyq jrm ?_;refine jyq (jri (i:=0)) ?_;refine jyq jrdr ?_;refine jyq jra ?_;refine jyq jrm ?_;refine jyq (jri (i:=1)) ?_;refine jyq jrdr ?_;refine jyq jra ?_
 refine jye (jecO (septets_ac (40 * l.getD 0 0+l.getD 1 0).toNat (by omega)) (fun p1=>?_) (ho:=rfl) (he:=(.cons (se rfl (CEnt.int (by omega))) .nil)))
 refine jyq jrm ?_;refine jyd ?_;refine jtn ?_;refine jcs ?_;refine jcr ?_;refine jq jrm ?_;refine jq (jrsr (hl:=(bd_some rfl (show (2:Int)=((2:Nat):Int) from rfl))) (hu:=(bd_none _ _))) ?_;refine jq jrl ?_;refine jq jrm ?_;refine jN ?_;refine jB ?_;refine l_loop (α:=Nat×List UInt8×Option Nat) [6,8,29,30,31,32,33,34,35,36,37] (fun (i,o,g)=>[(6,.os 0 g 0 o.length 1),(29,.c (.int .i64 (i:Nat)))]) (fun (i,o,g)=>[(g,.blk o.length (byF o))]) (fun (i,o,g)=>i≤l.length-2∧o=sepL (40 * l.getD 0 0+l.getD 1 0).toNat++(((l.drop 2).take i).map fun n=>sepL n.toNat).flatten) (fun (i,o,g)=>l.length-i) ((0,sepL (40 * l.getD 0 0+l.getD 1 0).toNat,p1)) ?_ (fun _=>rfl) ?_ ?_ ?_
 ·exact ⟨Nat.zero_le _,by simp⟩
 ·exact .cons cZ (.cons cZ .nil)
 ·exact .same .nil
 ·rintro ⟨i,o,g⟩ ⟨(hi:i≤l.length-2),ho⟩
  have hol:o.length≤5+5 * i:=by
   rw [ho,List.length_append]
   have e1:=sepL_len (n:=(40 * l.getD 0 0+l.getD 1 0).toNat) (by omega)
   have e2:=sep_flat_len (l:=(l.drop 2).take i) (fun n hn=>hall n (List.mem_of_mem_drop (List.mem_of_mem_take hn)))
   rw [List.length_take,List.length_drop] at e2
   omega
  refine jcr ?_;refine jq jrc ?_;refine jN ?_;refine jcs ?_;refine jcc (fun h74=>?_) fun h74=>?_
  rotate_left
  ·refine jX (jte (jte (jbx (jtn ?_))))
   refine jcr ?_;refine jq jrm ?_;refine jq jrm ?_;refine jq jrm ?_;refine jN ?_;refine jE (freeze 0 rfl) ?_;refine jE (thawB 2 (o) rfl rfl (by rfl) rfl) ?_
   refine jR (jrt (hv:=?_))
   refine CEnt.tup2 (CEnt.bs ?_) (CEnt.nilE (by omega))
   unfold putM
   rw [if_pos (by omega),hl,ho,List.take_of_length_le (by rw [List.length_drop];omega)]
   rfl
  refine jS (jtn ?_)
  refine jcs ?_;refine jB ?_;refine jcr ?_;refine jq jri ?_;refine jq jrdr ?_;refine jq jrm ?_;refine jN ?_
  have h3:=hall _ (getD_mem' (l:=l) (k:=2+i) 0 (by omega))
  have h4:=sepL_len (n:=(l.getD (2+i) 0).toNat) (by omega)
  refine jcg ?_;refine jq jrm ?_;refine jq jrm ?_
  refine jqe (jecO (septets_ac (l.getD (2+i) 0).toNat (by omega)) (fun p2=>?_) (ho:=rfl) (he:=(.cons (se rfl (CEnt.int (by omega))) .nil)))
  first|refine jqm (m_appendB rfl rfl rfl (Nat.le_refl _) (fun _ _=>cZ) (src_rs rfl) rfl (fun j hj=>by simp only [Nat.div_one];exact cZ) Tryz.underlying22 nu22 sz5 zr5 by5 rfl (by first|omega|(simp;done)|(simp;omega)|(simp at *;omega)) (fun j hj=>rfl) rfl rfl (fun p3=>?_))|refine jqm (m_appendB rfl rfl rfl (Nat.le_refl _) (fun _ _=>cZ) (src_str rfl) rfl (fun j hj=>cZ) Tryz.underlying22 nu22 sz5 zr5 by5 rfl (by first|omega|(simp;done)|(simp;omega)|(simp at *;omega)) (fun j hj=>rfl) rfl rfl (fun p3=>?_))|refine jqm (m_appendB rfl rfl rfl (Nat.le_refl _) (fun _ _=>cZ) (src_os rfl (.inl rfl) (by omega)) rfl (fun j hj=>by rw [Nat.zero_add];exact cZ) Tryz.underlying22 nu22 sz5 zr5 by5 rfl (by omega) (fun j hj=>rfl) rfl rfl (fun p3=>?_))
  refine jq jrm ?_;refine jN ?_
  refine jbn (jtn ?_)
  refine jcg ?_;refine jq jra ?_;refine jq jrm ?_;refine jN ?_;refine jtn ?_
  refine jlend ((i+1,o++sepL (l.getD (2+i) 0).toNat,p3)) ?_ ?_ (h5:=?_) (h7:=?_)
  ·exact ⟨by omega,by rw [ho,sep_take (by rw [List.length_drop];omega),List.append_assoc]⟩
  ·show l.length-(i+1)<l.length-i;omega
  ·exact .cons cZ (.cons (CEnt.int (by omega)) .nil)
  ·exact .same .nil
theorem put_len (s:List UInt8):(putM s).length≤100:=by
 unfold putM
 split
 ·rename_i h
  obtain ⟨hl2,hl16,hall,ha,hb⟩:=right_at (parse_ok h)
  unfold putA
  have h0:=hall _ (getD_mem' (l:=(parseM s).1) (k:=0) 0 (by omega))
  have h1:=hall _ (getD_mem' (l:=(parseM s).1) (k:=1) 0 (by omega))
  have e1:=sepL_len (n:=(40 * (parseM s).1.getD 0 0+(parseM s).1.getD 1 0).toNat) (by omega)
  have e2:=sep_flat_len (l:=(parseM s).1.drop 2) (fun n hn=>hall n (List.mem_of_mem_drop hn))
  rw [List.length_drop] at e2
  rw [List.length_append]
  omega
 ·simp
end
end Am
end Go.Proofs.YteolfpolmioalaaGreatDoor
namespace Go.Proofs.YteolfpolmioalaaGreatDoor
set_option linter.unusedVariables false
open Go.RowKit Go.ChangeShapes

def isErr (x:String×DataW Unit):Bool:=match x.2 with
 | .iface nm (.ptr (.agg [.lit (.string _)])) => nm == "*errors.errorString"
 | _=>false
theorem isErr_out {x : String × DataW Unit} (h : isErr x = true) : ∃ text, x.2 = .iface "*errors.errorString" (.ptr (.agg [.lit (.string text)])) := by
 obtain ⟨n,d⟩:=x
 unfold isErr at h
 dsimp only at h ⊢
 split at h
 ·exact ⟨_,by rw [eq_of_beq h]⟩
 ·cases h

theorem laid_list {P:Program} {W:World} {nm:String} {ti tp te ts:TypeId} {ms:Array (String×TypeId)} {f:Field}
  (hi:P.underlying ti=some (.interface ms)) (hrow:∀ u,P.typeName? 3 u=some nm→u=tp)
  (hp:P.underlying tp=some (.pointer te)) (he:P.underlying te=some (.struct #[f])) (hft:f.type=ts) (hfo:f.offset=0) (hs:P.underlying ts=some .string) (hc:P.cellsOf te=1) (hcs:P.cellsOf ts=1) :
  ∀ (L:List (String×DataW Unit)) (ps:List MemPlace),DataW.LaidVars P W L ps →
   (∀ b off,MemPlace.cell b off ∈ ps→(∃ c t,W.heap[b]?=some (.cells c t (0,0)))∧∀ u v,W.cell? ⟨b,off,none⟩=some (.iface u v)→Value.okWide P W .any 0 u v)→ps.Nodup →
   (∀ x ∈ L,isErr x=true→(∃ text,x.2=.iface nm (.ptr (.agg [.lit (.string text)])))∧∀ g,P.globalNamed x.1=some g→(P.globals[g]?).map (·.type)=some ti) →
   ∃ al:List Addr,al.length=(L.filter isErr).length∧al.Nodup∧(∀ a ∈ al,a.spot=none∧MemPlace.cell a.block a.off ∈ ps) ∧
    ∀ (i:Nat) (x:String×DataW Unit) (a:Addr),(L.filter isErr)[i]?=some x→al[i]?=some a→∃ g,P.globalNamed x.1=some g∧W.cell? ⟨g,0,none⟩=some (.iface tp (.pointer (some a)))
 | [],ps,_,_,_,_=>⟨[],rfl,List.nodup_nil,by simp,by simp⟩
 |(n,d)::r,ps,hv,hrows,hnd,hL=>by
  obtain ⟨g,t,cs,fuel,p,q,hg,ht,hvar,hd,hrest,rfl⟩:=hv
  have hnq:q.Nodup:=List.Nodup.sublist (List.sublist_append_right _ _) hnd
  obtain ⟨al,h1,h2,h3,h4⟩:=laid_list hi hrow hp he hft hfo hs hc hcs r q hrest (fun b off hm=>hrows b off (List.mem_append_right _ hm)) hnq (fun x hx=>hL x (List.mem_cons_of_mem _ hx))
  by_cases hE:isErr (n,d)=true
  case neg =>
   have hE:isErr (n,d)=false:=by simpa using hE
   rw [List.filter_cons_of_neg (by simp [hE])]
   exact ⟨al,h1,h2,fun a ha=>⟨(h3 a ha).1,List.mem_append_right _ (h3 a ha).2⟩,h4⟩
  obtain ⟨⟨text,hx⟩,hty⟩:=hL (n,d) (List.mem_cons_self ..) hE
  rw [List.filter_cons_of_pos hE]
  simp only at hx
  subst hx
  obtain rfl:=Option.some.inj ((hty g hg).symm.trans ht)
  obtain ⟨l⟩:=cs
  have hcell0:∀ v,l=[v]→W.cell? ⟨g,0,none⟩=some v:=fun v e=>by
   subst e
   simpa using World.var?_cell hg hvar 0
  obtain ⟨a,s,rfl,ha,_,_,rfl⟩:=errorString_of_trod hi hrow hp he hft hfo hs hc hcs hd (fun u v e=>by
   simp only at e
   subst e
   exact (hrows g 0 (by simp [MemPlace.row])).2 u v (hcell0 _ rfl))
  have hsp:a.spot=none:=World.cell?_spot ha
  have hpl:MemPlace.cell a.block a.off ∈ MemPlace.row a 1:=by simp [MemPlace.row]
  refine ⟨a::al,by simp [h1],List.nodup_cons.2 ⟨fun hm=>?_,h2⟩,?_,?_⟩
  ·have hq:=(h3 a hm).2
   have:=(List.nodup_append.1 hnd).2.2 (MemPlace.cell a.block a.off) (List.mem_append_right _ hpl) _ hq
   exact this rfl
  ·intro b hb
   rcases List.mem_cons.1 hb with rfl|hb
   ·exact ⟨hsp,List.mem_append_left _ (List.mem_append_right _ hpl)⟩
   ·exact ⟨(h3 b hb).1,List.mem_append_right _ (h3 b hb).2⟩
  ·intro i x b hi' hb
   match i,hi',hb with
   | 0,hi',hb =>
    simp only [List.getElem?_cons_zero,Option.some.injEq] at hi' hb
    subst hi'
    subst hb
    exact ⟨g,hg,hcell0 _ rfl⟩
   | i+1,hi',hb=>exact h4 i x b (by simpa using hi') (by simpa using hb)

theorem starRow (u : TypeId) (h : Tryz.prog.typeName? 3 u = some "*errors.errorString") : u = 248 := by
 have e : "*errors.errorString" = "*" ++ "errors.errorString" := by decide +kernel
 exact typeName_ptr_named (nm := "errors.errorString") (by rw [← e]; kernel_rfl) (by kernel_rfl) (by decide) u (by rw [← e]; exact h)
theorem cellsErr:Tryz.prog.cellsOf 270=1:=by kernel_rfl
theorem cellsStr:Tryz.prog.cellsOf 9=1:=by kernel_rfl

theorem sent_of_laid {W:World} {L:List (String×DataW Unit)} {g0:List Nat} (h:laidMetH Tryz.prog L W) (h1:(L.all fun x=>x.2.handleName?.isNone)=true)
  (h3:((L.filter isErr).map fun x=>Tryz.prog.globalNamed x.1)=(errG g0).map some) (h4:((errG g0).map fun g=>(Tryz.prog.globals[g]?).map (·.type))=List.replicate (errG g0).length (some 28))
  (ht:tabA ∈ lst g0→tabB ∈ lst g0→Lib.Utf8Tabs tabA tabB W) (hAB:((lst g0).contains tabA)=((lst g0).contains tabB)):∃ al,SentL W g0 al:=by
 rw [MakeChecks.laidMetH_plain _ _ _ h1] at h
 obtain ⟨ps,hv,hnd,hrows⟩:=h
 have hlen:(L.filter isErr).length=(errG g0).length:=by simpa using congrArg List.length h3
 have hgl:∀ (i:Nat) (x:String×DataW Unit),(L.filter isErr)[i]?=some x→∃ g,(errG g0)[i]?=some g∧Tryz.prog.globalNamed x.1=some g:=by
  intro i x hx
  have:=congrArg (fun l=>l[i]?) h3
  simp only [List.getElem?_map,hx,Option.map_some] at this
  obtain ⟨g,hg,e⟩:=Option.map_eq_some_iff.1 this.symm
  exact ⟨g,hg,e.symm⟩
 obtain ⟨al,l1,l2,l3,l4⟩:=laid_list Tryz.underlying28 starRow Tryz.underlying248 Tryz.underlying270 rfl rfl Tryz.underlying9 cellsErr cellsStr L ps hv hrows hnd
  (fun x hx hE=>⟨isErr_out hE,fun g hg=>by
   obtain ⟨i,hi⟩:=List.mem_iff_getElem?.1 (List.mem_filter.2 ⟨hx,hE⟩)
   obtain ⟨g',hg',e⟩:=hgl i x hi
   obtain rfl:=Option.some.inj (e.symm.trans hg)
   have:=congrArg (fun l=>l[i]?) h4
   simp only [List.getElem?_map,hg',Option.map_some] at this
   have hlt:i<(errG g0).length:=(List.getElem?_eq_some_iff.1 hg').1
   rw [List.getElem?_replicate,if_pos hlt] at this
   exact Option.some.inj this⟩)
 have hvar:∀ i g,(errG g0)[i]?=some g→W.cell? ⟨g,0,none⟩=some (ev al (i+1)):=by
  intro i g hg
  have hlt:i<(errG g0).length:=(List.getElem?_eq_some_iff.1 hg).1
  obtain ⟨x,hx⟩:∃ x,(L.filter isErr)[i]?=some x:=⟨(L.filter isErr)[i],List.getElem?_eq_getElem (by omega)⟩
  obtain ⟨a,ha⟩:∃ a,al[i]?=some a:=⟨al[i],List.getElem?_eq_getElem (by omega)⟩
  obtain ⟨g',hg',e⟩:=hgl i x hx
  obtain rfl:=Option.some.inj (hg.symm.trans hg')
  obtain ⟨g2,e2,hc⟩:=l4 i x a hx ha
  obtain rfl:=Option.some.inj (e.symm.trans e2)
  rw [hc]
  simp [ev,ha]
 refine ⟨al,by omega,fun i j g g' hi _ hj _ e=>(List.getElem?_inj (by have:=(List.getElem?_eq_some_iff.1 hi).1;omega) l2).1 e,fun i g hi _=>hvar i g hi,fun a ha=>(hrows a.block a.off (l3 a ha).2).1,ht,fun g hg=>?_⟩
 by_cases hT:(Nat.beq g tabA || Nat.beq g tabB)=true
 ·have hc:tabA ∈ lst g0∧tabB ∈ lst g0:=by
   rcases Bool.or_eq_true_iff.1 hT with e|e
   ·have:=Nat.eq_of_beq_eq_true e
    subst this
    have h5:(lst g0).contains tabA=true:=List.contains_iff_mem.2 hg
    exact ⟨hg,List.contains_iff_mem.1 (hAB ▸ h5)⟩
   ·have:=Nat.eq_of_beq_eq_true e
    subst this
    have h5:(lst g0).contains tabB=true:=List.contains_iff_mem.2 hg
    exact ⟨List.contains_iff_mem.1 (hAB.symm ▸ h5),hg⟩
  have hU:=ht hc.1 hc.2
  rcases Bool.or_eq_true_iff.1 hT with e|e
  ·have:=Nat.eq_of_beq_eq_true e
   subst this
   exact World.block_lt_of_cell? W _ (hU.1 0 (by decide))
  ·have:=Nat.eq_of_beq_eq_true e
   subst this
   exact World.block_lt_of_cell? W _ (hU.2 0 (by decide)).1
 ·have hm:g ∈ errG g0:=List.mem_filter.2 ⟨(lst_mem.1 hg).1,by
   cases hb:(Nat.beq g tabA || Nat.beq g tabB) with
   | true=>exact absurd hb hT
   | false=>rfl⟩
  obtain ⟨i,hi⟩:=List.mem_iff_getElem?.1 hm
  exact World.block_lt_of_cell? W _ (hvar i g hi)
end Go.Proofs.YteolfpolmioalaaGreatDoor
namespace Go.Proofs.YteolfpolmioalaaGreatDoor
set_option linter.unusedVariables false
open Go.RowKit Go.ChangeShapes
def tabRen:Go.Shelf.Ren:=⟨fun n=>n,fun|5=>5|119=>230|138=>232|139=>233|n=>n,fun|3=>29|4=>30|n=>n⟩
theorem tabTypes:U8Types Tryz.prog tabRen where
 t5:=Tryz.underlying5
 t119:=Tryz.underlying230
 t138:=Tryz.underlying232
 t139:=Tryz.underlying233
theorem tabExtra:U8Extra Tryz.prog tabRen where
 n3:=by kernel_rfl
 n4:=by kernel_rfl
 y3:=by kernel_rfl
 y4:=by kernel_rfl
 c5:=by kernel_rfl
 c119:=by kernel_rfl
 c138:=by kernel_rfl
theorem tabs_of_laid {W : World} {L : List (String × DataW Unit)} (h : laidMetH Tryz.prog L W) (h1 : (L.all fun x => x.2.handleName?.isNone) = true) {i j : Nat} (hi : L[i]? = some ("unicode/utf8.first", Lib.firstData)) (hj : L[j]? = some ("unicode/utf8.acceptRanges", Lib.acceptData)) : Lib.Utf8Tabs tabA tabB W := by
 rw [MakeChecks.laidMetH_plain _ _ _ h1] at h
 obtain ⟨ps,hv,hnd,hrows⟩:=h
 exact utf8Tabs_of_readsT (ρ:=tabRen) tabTypes tabExtra (Lib.LaidVars_reads hv _ _ (List.mem_of_getElem? hi)) (Lib.LaidVars_reads hv _ _ (List.mem_of_getElem? hj))
end Go.Proofs.YteolfpolmioalaaGreatDoor
namespace Go.Proofs.YteolfpolmioalaaGreatDoor
set_option linter.unusedVariables false
open Go.RowKit Go.ChangeShapes
def u8ren:Go.Shelf.Ren:=⟨fun|196=>167|259=>189|n=>n,fun|0=>0|3=>3|4=>4|5=>5|9=>9|12=>12|46=>154|53=>173|119=>230|138=>232|139=>233|n=>n,fun|3=>29|4=>30|n=>n⟩
theorem u8lays:Go.Proofs.Lays.n196 Tryz.prog u8ren:={
 mixed:=by kernel_rfl
 f196:=Tryz.func167.trans (congrArg some (by kernel_rfl))
 f259:=Tryz.func189.trans (congrArg some (by kernel_rfl))
 t0:=Tryz.underlying0
 a0:=Tryz.isAgg0
 z0:=Tryz.sizeOf0
 v0:=Tryz.zeroValue0
 t3:=Tryz.underlying3
 a3:=Tryz.isAgg3
 z3:=Tryz.sizeOf3
 v3:=Tryz.zeroValue3
 t4:=Tryz.underlying4
 a4:=Tryz.isAgg4
 z4:=Tryz.sizeOf4
 v4:=Tryz.zeroValue4
 t5:=Tryz.underlying5
 a5:=Tryz.isAgg5
 z5:=Tryz.sizeOf5
 v5:=Tryz.zeroValue5
 t9:=Tryz.underlying9
 a9:=Tryz.isAgg9
 z9:=Tryz.sizeOf9
 v9:=Tryz.zeroValue9
 t12:=Tryz.underlying12
 a12:=Tryz.isAgg12
 z12:=Tryz.sizeOf12
 v12:=Tryz.zeroValue12
 t46:=Tryz.underlying154
 a46:=Tryz.isAgg154
 z46:=Tryz.sizeOf154
 v46:=Tryz.zeroValue154
 t53:=Tryz.underlying173
 a53:=Tryz.isAgg173
 z53:=Tryz.sizeOf173
 v53:=Tryz.zeroValue173
 t119:=Tryz.underlying230
 a119:=Tryz.isAgg230
 z119:=Tryz.sizeOf230
 t138:=Tryz.underlying232
 a138:=Tryz.isAgg232
 z138:=Tryz.sizeOf232
 v138:=Tryz.zeroValue232
 t139:=Tryz.underlying233
 a139:=Tryz.isAgg233
 z139:=Tryz.sizeOf233
 v139:=Tryz.zeroValue233
 g3:=by kernel_rfl
 g4:=by kernel_rfl }
namespace Am
class OkT (l:List Nat):Prop where
 a:tabA ∈ lst l
 b:tabB ∈ lst l
instance okTT:OkT gsT:=⟨by decide,by decide⟩
theorem valid_ac {gs:List Nat} [OkT gs] (l:List UInt8) (hl:l.length≤9223372036854775807):ACp gs Tryz.prog 167 [strC l] (.c (.bool (Lib.validD l))) :=
 ac_old fun al w St vals hs hv hr=>by
  have h0:vals.getD 0 undef=.string ⟨l.toArray⟩:=hr 0
  rw [vals1 hv,h0]
  exact Any.utf8_ValidString u8lays ⟨l.toArray⟩ w hl (hs.tab OkT.a OkT.b)
end Am
end Go.Proofs.YteolfpolmioalaaGreatDoor
namespace Go.Proofs.YteolfpolmioalaaGreatDoor
set_option linter.unusedVariables false
namespace Am
section
open Go.RowKit Go.Lib
def RefSt (b n c least:Nat):Prop :=
 (n=0∧c=b∧least=0∧b<128∧32≤b∧b≠127)∨(n=1∧c+192=b∧least=128∧b<224)∨(n=2∧c+224=b∧least=2048∧b<240)∨(n=3∧c+240=b∧least=65536∧b<248)
def cR (d:List UInt8) (c0:Nat):Nat→Nat
 | 0=>c0
 | j+1=>cR d c0 j * 64+bt d (j+1)-128
theorem cR_bd {d:List UInt8} {c0 j:Nat} (hj:j≤3) (h0:c0<128) (h:∀ q,1≤q→q≤j→128≤bt d q∧bt d q≤191):cR d c0 j<33554432∧(j≤2→cR d c0 j<524288):=by
 have h1:=h 1 (by omega)
 have h2:=h 2 (by omega)
 have h3:=h 3 (by omega)
 have e0:cR d c0 0=c0:=rfl
 have e1:cR d c0 1=c0 * 64+bt d 1-128:=rfl
 have e2:cR d c0 2=(c0 * 64+bt d 1-128) * 64+bt d 2-128:=rfl
 have e3:cR d c0 3=((c0 * 64+bt d 1-128) * 64+bt d 2-128) * 64+bt d 3-128:=rfl
 have hj4:j=0∨j=1∨j=2∨j=3:=by omega
 rcases hj4 with e|e|e|e <;> rw [e] <;> omega
theorem ref_cont {d:List UInt8} {n c least j:Nat} (hd:d≠[]) (hR:RefSt (bt d 0) n c least) (hj:j<n) (hl:d.length=1+j∨bt d (j+1)<128∨191<bt d (j+1)):plainM d=false:=by
 refine ref_bad hd ?_
 unfold RefSt at hR
 rcases hR with hR|hR|hR|hR
 ·omega
 ·rw [dec_two (by omega) (by omega),if_pos ?_]
  obtain rfl:j=0:=by omega
  simp only [Nat.zero_add] at hl
  omega
 ·rw [dec_three (by omega) (by omega),if_pos ?_]
  have:j=0∨j=1:=by omega
  rcases this with rfl|rfl <;> simp only [Nat.zero_add,Nat.reduceAdd] at hl <;> omega
 ·rw [dec_four (by omega) (by omega),if_pos ?_]
  have:j=0∨j=1∨j=2:=by omega
  rcases this with rfl|rfl|rfl <;> simp only [Nat.zero_add,Nat.reduceAdd] at hl <;> omega
theorem ref_end {d:List UInt8} {n c least:Nat} (hd:d≠[]) (hR:RefSt (bt d 0) n c least) (hl:1+n≤d.length) (h:∀ q,1≤q→q≤n→128≤bt d q∧bt d q≤191) :
  plainM d=if cR d c n<least∨1114111<cR d c n∨(55296≤cR d c n∧cR d c n<57344) then false else plainM (d.drop (1+n)):=by
 have h1:=h 1 (by omega)
 have h2:=h 2 (by omega)
 have h3:=h 3 (by omega)
 unfold RefSt at hR
 rcases hR with ⟨rfl,rfl,rfl,hR⟩|⟨rfl,hc,rfl,hR⟩|⟨rfl,hc,rfl,hR⟩|⟨rfl,hc,rfl,hR⟩
 ·rw [ref_ascii hd (by omega),if_neg (by omega),if_neg (by show ¬ (bt d 0<0∨1114111<bt d 0∨(55296≤bt d 0∧bt d 0<57344));omega)]
 ·have e:cR d c 1=(bt d 0-192) * 64+bt d 1-128:=by show c * 64+bt d 1-128=_;omega
  have hd2:=dec_two (l:=d) (by omega) (by omega)
  rw [e]
  by_cases hb:(bt d 0-192) * 64+bt d 1-128<128
  ·rw [if_pos (.inl hb)]
   exact ref_bad hd (by rw [hd2,if_pos (by omega)])
  ·rw [if_neg (by omega)]
   exact ref_good hd (by rw [hd2,if_neg (by omega)]) (by omega) (by omega)
 ·have e:cR d c 2=((bt d 0-224) * 64+bt d 1-128) * 64+bt d 2-128:=by show (c * 64+bt d 1-128) * 64+bt d 2-128=_;omega
  have hd2:=dec_three (l:=d) (by omega) (by omega)
  obtain ⟨C,hC⟩:∃ C,C=((bt d 0-224) * 64+bt d 1-128) * 64+bt d 2-128:=⟨_,rfl⟩
  have hlt:C≤65535:=by omega
  rw [e,← hC]
  rw [← hC] at hd2
  by_cases hb:C<2048∨(55296≤C∧C<57344)
  ·rw [if_pos (by omega)]
   exact ref_bad hd (by rw [hd2,if_pos (by omega)])
  ·rw [if_neg (by omega)]
   exact ref_good hd (by rw [hd2,if_neg (by omega)]) (by omega) (by omega)
 ·have e:cR d c 3=(((bt d 0-240) * 64+bt d 1-128) * 64+bt d 2-128) * 64+bt d 3-128:=by show ((c * 64+bt d 1-128) * 64+bt d 2-128) * 64+bt d 3-128=_;omega
  have hd2:=dec_four (l:=d) (by omega) (by omega)
  obtain ⟨C,hC⟩:∃ C,C=(((bt d 0-240) * 64+bt d 1-128) * 64+bt d 2-128) * 64+bt d 3-128:=⟨_,rfl⟩
  rw [e,← hC]
  rw [← hC] at hd2
  by_cases hb:C<65536∨1114111<C
  ·rw [if_pos (by omega)]
   exact ref_bad hd (by rw [hd2,if_pos (by omega)])
  ·rw [if_neg (by omega)]
   exact ref_good hd (by rw [hd2,if_neg (by omega)]) (by omega) (by omega)
theorem bt_drop (l:List UInt8) (i j:Nat):bt (l.drop i) j=bt l (i+j):=by simp [bt,List.getD]
theorem dec_at (l:List UInt8) (i:Nat):Utf8.decode ⟨l.toArray⟩ i=dec1 (l.drop i):=by
 unfold dec1
 rw [Lib.decode_at,ba_bang,ba_bang,ba_bang,ba_bang,bt_drop,bt_drop,bt_drop,bt_drop,List.length_drop]
 rfl
theorem dec1_le {d:List UInt8} (hd:d≠[]):(dec1 d).2≤d.length:=by
 have hp:=List.length_pos_iff.2 hd
 unfold dec1 Lib.decodeN
 repeat' split
 all_goals first|(simp only;omega)|omega
end
section
open Go.RowKit
theorem plain07_ac {gs:List Nat} [OkT gs] (l:List UInt8) (hl:l.length≤1000000000):ACp gs Tryz.prog 153 [strC l] (.c (.bool (plainM l))):=by
 refine ac_of 18 Tryz.func153 rfl rfl rfl (fun al w0 F0 St0=>?_)
 refine jcr ?_;refine jq jrm ?_;refine jN ?_;refine jcs ?_;refine jcr ?_;refine jq jrm ?_
 refine jqe (e_range rfl rfl Tryz.underlying9 rfl rfl (fun p1=>?_))
 refine jN ?_;refine jB ?_;refine l_loop (α:=Nat) [2,4,7,8,9,10,11,12,13,14,15] (fun i=>[]) (fun i=>[(some p1,.obj (iterOP ⟨l.toArray⟩ i))]) (fun i=>i≤l.length∧noBadM (l.drop i)=noBadM l) (fun i=>l.length-i) (0) ?_ (fun _=>rfl) ?_ ?_ ?_
 ·exact ⟨Nat.zero_le _,rfl⟩
 ·exact .nil
 ·exact .same .nil
 ·rintro i ⟨hi,he⟩
  refine jcr ?_
  refine seq_md (wanted_none rfl) (m_next rfl rfl rfl rfl rfl (fun n23=>?_) (fun n23=>?_))
  ·refine jq jrx ?_;refine jN ?_;refine jcs ?_;refine jcT ?_
   refine jS (jtn ?_)
   refine jB ?_;refine jcr ?_;refine jq jrx ?_;refine jq jrm ?_;refine jN ?_
   have hd:=dec_at l i
   have hlt:i<l.length:=n23
   have hne:l.drop i≠[]:=by intro e;have:=congrArg List.length e;simp at this;omega
   have hw:=dec1_width (l.drop i)
   have hwl:=dec1_le hne
   simp only [List.length_drop] at hwl
   rw [← hd] at hw hwl
   refine jcr ?_;refine jq jrm ?_;refine jq jrc ?_;refine jq jrm ?_;refine jqsp 12 (fun g24=>?_) fun g24=>?_
   ·refine jqs ?_;refine jqs ?_;refine jq jrpT ?_;refine jN ?_;refine jcT ?_;refine jcr ?_;refine jq jrm ?_;refine jN ?_
    refine jR (jbr (jtr (jbr (jtr (jrt (hv:=?_))))))
    refine CEnt.bool ?_
    rw [plainM_two,← he,noBadM_step hne,← hd,if_pos ?_]
    ·rfl
    ·unfold badR;simp only [Bool.or_eq_true,decide_eq_true_eq];omega
   refine jq jrm ?_;refine jq jrc ?_;refine jq jrpF ?_;refine jN ?_;refine jcc (fun h24=>?_) fun h24=>?_
   ·refine jcr ?_;refine jq jrm ?_;refine jN ?_
    refine jR (jbr (jtr (jbr (jtr (jrt (hv:=?_))))))
    refine CEnt.bool ?_
    rw [plainM_two,← he,noBadM_step hne,← hd,if_pos ?_]
    ·rfl
    ·unfold badR;simp only [Bool.or_eq_true,decide_eq_true_eq];omega
   refine jS (jbn (jtn ?_))
   refine jlend (i+(Utf8.decode ⟨l.toArray⟩ i).2) ?_ ?_ (h5:=?_) (h7:=?_)
   ·refine ⟨by omega,?_⟩
    have hb:¬ badR (Utf8.decode ⟨l.toArray⟩ i).1=true:=by unfold badR;simp only [Bool.or_eq_true,decide_eq_true_eq];omega
    rw [← he,noBadM_step hne,← hd,if_neg hb,List.drop_drop]
   ·show l.length-(i+(Utf8.decode ⟨l.toArray⟩ i).2)<l.length-i;omega
   ·exact .nil
   ·exact .same .nil
  ·refine jq jrx ?_;refine jN ?_;refine jcs ?_;refine jcF ?_
   refine jX (jte (jte (jbx (jtn ?_))))
   refine jcr ?_;refine jq jrm ?_
   refine jqe (jecP (valid_ac l (by omega)) ?_)
   refine jq jrm ?_;refine jN ?_
   refine jR (jrt (hv:=?_))
   refine CEnt.bool ?_
   have e:l.drop i=[]:=List.drop_eq_nil_of_le (Nat.le_of_not_lt n23)
   rw [plainM_two,← he,e]
   rfl


set_option maxHeartbeats 4000000 in
theorem rplain_ac {gs:List Nat} (l:List UInt8) (hl:l.length≤1000000000):ACp gs Tryz.prog 121 [strC l] (.c (.bool (plainM l))):=by
 refine ac_of 94 Tryz.func121 rfl rfl rfl (fun al w0 F0 St0=>?_)
 refine jcr ?_;refine jq jrm ?_;refine jN ?_;refine jcr ?_;refine jq jrm ?_;refine jN ?_;refine jcs ?_;refine jB ?_;refine l_loop (α:=Nat) [2,3,4,5,6,7,8,9,10,11,12,13,14,15,16,17,18,19,20,21,22,23,24,25,26,27,28,29,30,31,32,33,34,35,36,37,38,39,40,41,42,43,44,45,46,47,48,49,50,51,52,53,54,55,56,57,58,59,60,61,62,63,64,65,66,67,68,69,70,71,72,73,74,75,76,77,78,79,80,81,82,83,84,85,86,87,88,89,90,91,92,93] (fun i=>[(3,.c (.int .i64 (i:Nat)))]) (fun _=>[]) (fun i=>i≤l.length∧plainM (l.drop i)=plainM l) (fun i=>l.length-i) (0) ?_ (fun _=>rfl) ?_ ?_ ?_
 ·exact ⟨Nat.zero_le _,rfl⟩
 ·exact .cons cZ .nil
 ·(repeat (first|exact HEnt.nil|refine HEnt.same ?_|refine HEnt.blk rfl (fun j hj=>by rcases j with _|_|_|_|_|_|_|_|j <;> first|exact cZ|exact CEnt.int (by omega)|omega) ?_))
 ·rintro i ⟨hi,he⟩
  refine jcs ?_;refine jcr ?_;refine jq jrm ?_;refine jq jrm ?_;refine jq jrls ?_;refine jq jrc ?_;refine jN ?_;refine jcc (fun h9=>?_) fun h9=>?_
  rotate_left
  ·refine jX (jte (jte (jbx (jtn ?_))))
   refine jcr ?_;refine jq jrm ?_;refine jN ?_
   refine jR (jrt (hv:=?_))
   refine CEnt.bool ?_
   rw [← he,List.drop_eq_nil_of_le (by omega)]
   rfl
  refine jS (jtn ?_)
  refine jB ?_;refine jcr ?_;refine jq jrm ?_;refine jq jrm ?_;refine jq jrix ?_;refine jq (jrv8 .i64) ?_;refine jq jrm ?_;refine jq jrm ?_;refine jq jrm ?_;refine jN ?_
  have hlt:i<l.length:=by omega
  have hne:l.drop i≠[]:=by intro e;have:=congrArg List.length e;simp at this;omega
  obtain ⟨b,hb⟩:∃ b,b=bt (l.drop i) 0:=⟨_,rfl⟩
  have hbl:b<256:=by rw [hb];exact bt_lt _ _
  refine code_join (α:=Nat×Nat×Nat) [2,4,5,6,15,16,17,18,19,20,21,22,23,24,25,26,27,28,29,30,31,32,33,34,35,36,37,38,39,40,41,42,43,44,45,46] (fun (n,c,z)=>[(4,.c (.int .i64 (c:Nat))),(5,.c (.int .i64 (n:Nat))),(6,.c (.int .i64 (z:Nat)))]) (fun _=>[]) (fun (n,c,z)=>RefSt (bt (l.drop i) 0) n c z) (fun _=>rfl) ?_ ?_
  ·refine jE (weaken 4 (.c (.int .i64 (b:Nat))) (CEnt.int (by rw [hb,bt_drop];rfl))) ?_;refine jcr ?_;refine jq jrm ?_;refine jq jrc ?_;refine jN ?_;refine jcc (fun h11=>?_) fun h11=>?_
   ·refine jcr ?_;refine jq jrm ?_;refine jq jrc ?_;refine jq jrm ?_;refine jqsp 19 (fun g12=>?_) fun g12=>?_
    ·refine jqs ?_;refine jqs ?_;refine jq jrpT ?_;refine jN ?_;refine jcT ?_;refine jcr ?_;refine jq jrm ?_;refine jN ?_
     refine jR (jtr (jbr (jtr (jbr (jtr (jrt (hv:=?_)))))))
     refine CEnt.bool ?_
     rw [← he,ref_ascii hne (by rw [← hb];omega),if_pos (by rw [← hb];omega)]
    refine jq jrm ?_;refine jq jrc ?_;refine jq jrpF ?_;refine jN ?_;refine jcc (fun h12=>?_) fun h12=>?_
    rotate_left
    ·refine jS (jtn ?_)
     refine jjend ((0,b,0)) ?_ (h5:=?_)
     ·show RefSt (bt (l.drop i) 0) _ _ _
      rw [← hb];unfold RefSt;omega
     ·exact .cons (CEnt.int (by omega)) (.cons (CEnt.int (by omega)) (.cons (CEnt.int (by omega)) .nil))
    refine jcr ?_;refine jq jrm ?_;refine jN ?_
    refine jR (jtr (jbr (jtr (jbr (jtr (jrt (hv:=?_)))))))
    refine CEnt.bool ?_
    rw [← he,ref_ascii hne (by rw [← hb];omega),if_pos (by rw [← hb];omega)]
   refine jcr ?_;refine jq jrm ?_;refine jq jrc ?_;refine jq jrm ?_;refine jqsp 25 (fun g15=>?_) fun g15=>?_
   rotate_left
   ·refine jqs ?_;refine jqs ?_;refine jq jrpF ?_;refine jN ?_;refine jcF ?_;refine jcr ?_;refine jq jrm ?_;refine jq jrc ?_;refine jq jrm ?_;refine jqsp 33 (fun g17=>?_) fun g17=>?_
    rotate_left
    ·refine jqs ?_;refine jqs ?_;refine jq jrpF ?_;refine jN ?_;refine jcF ?_;refine jcr ?_;refine jq jrm ?_;refine jq jrc ?_;refine jq jrm ?_;refine jqsp 41 (fun g19=>?_) fun g19=>?_
     rotate_left
     ·refine jqs ?_;refine jqs ?_;refine jq jrpF ?_;refine jN ?_;refine jcF ?_;refine jcr ?_;refine jq jrm ?_;refine jN ?_
      refine jR (jtr (jbr (jtr (jbr (jtr (jrt (hv:=?_)))))))
      refine CEnt.bool ?_
      rw [← he,ref_bad hne (dec_head_bad (by rw [← hb];omega) (by rw [← hb];omega))]
     refine jq jrm ?_;refine jq jrc ?_;refine jq jrpT ?_;refine jN ?_;refine jcc (fun h19=>?_) fun h19=>?_
     rotate_left
     ·refine jcr ?_;refine jq jrm ?_;refine jN ?_
      refine jR (jtr (jbr (jtr (jbr (jtr (jrt (hv:=?_)))))))
      refine CEnt.bool ?_
      rw [← he,ref_bad hne (dec_head_bad (by rw [← hb];omega) (by rw [← hb];omega))]
     refine jcg ?_;refine jq jrm ?_;refine jq jra ?_;refine jq jrm ?_;refine jq jrm ?_;refine jq jrm ?_;refine jN ?_;refine jtn ?_
     refine jjend ((3,b-240,65536)) ?_ (h5:=?_)
     ·show RefSt (bt (l.drop i) 0) _ _ _
      rw [← hb];unfold RefSt;omega
     ·exact .cons (CEnt.int (by omega)) (.cons (CEnt.int (by omega)) (.cons (CEnt.int (by omega)) .nil))
    refine jq jrm ?_;refine jq jrc ?_;refine jq jrpT ?_;refine jN ?_;refine jcc (fun h17=>?_) fun h17=>?_
    ·refine jcg ?_;refine jq jrm ?_;refine jq jra ?_;refine jq jrm ?_;refine jq jrm ?_;refine jq jrm ?_;refine jN ?_;refine jtn ?_
     refine jjend ((3,b-240,65536)) ?_ (h5:=?_)
     ·show RefSt (bt (l.drop i) 0) _ _ _
      rw [← hb];unfold RefSt;omega
     ·exact .cons (CEnt.int (by omega)) (.cons (CEnt.int (by omega)) (.cons (CEnt.int (by omega)) .nil))
    refine jcr ?_;refine jq jrm ?_;refine jq jrc ?_;refine jq jrm ?_;refine jqsp 41 (fun g19=>?_) fun g19=>?_
    rotate_left
    ·refine jqs ?_;refine jqs ?_;refine jq jrpF ?_;refine jN ?_;refine jcF ?_;refine jcr ?_;refine jq jrm ?_;refine jN ?_
     refine jR (jtr (jbr (jtr (jbr (jtr (jrt (hv:=?_)))))))
     refine CEnt.bool ?_
     rw [← he,ref_bad hne (dec_head_bad (by rw [← hb];omega) (by rw [← hb];omega))]
    refine jq jrm ?_;refine jq jrc ?_;refine jq jrpT ?_;refine jN ?_;refine jcc (fun h19=>?_) fun h19=>?_
    rotate_left
    ·refine jcr ?_;refine jq jrm ?_;refine jN ?_
     refine jR (jtr (jbr (jtr (jbr (jtr (jrt (hv:=?_)))))))
     refine CEnt.bool ?_
     rw [← he,ref_bad hne (dec_head_bad (by rw [← hb];omega) (by rw [← hb];omega))]
    refine jcg ?_;refine jq jrm ?_;refine jq jra ?_;refine jq jrm ?_;refine jq jrm ?_;refine jq jrm ?_;refine jN ?_;refine jtn ?_
    refine jjend ((3,b-240,65536)) ?_ (h5:=?_)
    ·show RefSt (bt (l.drop i) 0) _ _ _
     rw [← hb];unfold RefSt;omega
    ·exact .cons (CEnt.int (by omega)) (.cons (CEnt.int (by omega)) (.cons (CEnt.int (by omega)) .nil))
   refine jq jrm ?_;refine jq jrc ?_;refine jq jrpT ?_;refine jN ?_;refine jcc (fun h15=>?_) fun h15=>?_
   ·refine jcg ?_;refine jq jrm ?_;refine jq jra ?_;refine jq jrm ?_;refine jq jrm ?_;refine jq jrm ?_;refine jN ?_;refine jtn ?_
    refine jjend ((1,b-192,128)) ?_ (h5:=?_)
    ·show RefSt (bt (l.drop i) 0) _ _ _
     rw [← hb];unfold RefSt;omega
    ·exact .cons (CEnt.int (by omega)) (.cons (CEnt.int (by omega)) (.cons (CEnt.int (by omega)) .nil))
   refine jcr ?_;refine jq jrm ?_;refine jq jrc ?_;refine jq jrm ?_;refine jqsp 33 (fun g17=>?_) fun g17=>?_
   rotate_left
   ·refine jqs ?_;refine jqs ?_;refine jq jrpF ?_;refine jN ?_;refine jcF ?_;refine jcr ?_;refine jq jrm ?_;refine jq jrc ?_;refine jq jrm ?_;refine jqsp 41 (fun g19=>?_) fun g19=>?_
    rotate_left
    ·refine jqs ?_;refine jqs ?_;refine jq jrpF ?_;refine jN ?_;refine jcF ?_;refine jcr ?_;refine jq jrm ?_;refine jN ?_
     refine jR (jtr (jbr (jtr (jbr (jtr (jrt (hv:=?_)))))))
     refine CEnt.bool ?_
     rw [← he,ref_bad hne (dec_head_bad (by rw [← hb];omega) (by rw [← hb];omega))]
    refine jq jrm ?_;refine jq jrc ?_;refine jq jrpT ?_;refine jN ?_;refine jcc (fun h19=>?_) fun h19=>?_
    rotate_left
    ·refine jcr ?_;refine jq jrm ?_;refine jN ?_
     refine jR (jtr (jbr (jtr (jbr (jtr (jrt (hv:=?_)))))))
     refine CEnt.bool ?_
     rw [← he,ref_bad hne (dec_head_bad (by rw [← hb];omega) (by rw [← hb];omega))]
    refine jcg ?_;refine jq jrm ?_;refine jq jra ?_;refine jq jrm ?_;refine jq jrm ?_;refine jq jrm ?_;refine jN ?_;refine jtn ?_
    refine jjend ((3,b-240,65536)) ?_ (h5:=?_)
    ·show RefSt (bt (l.drop i) 0) _ _ _
     rw [← hb];unfold RefSt;omega
    ·exact .cons (CEnt.int (by omega)) (.cons (CEnt.int (by omega)) (.cons (CEnt.int (by omega)) .nil))
   refine jq jrm ?_;refine jq jrc ?_;refine jq jrpT ?_;refine jN ?_;refine jcc (fun h17=>?_) fun h17=>?_
   ·refine jcg ?_;refine jq jrm ?_;refine jq jra ?_;refine jq jrm ?_;refine jq jrm ?_;refine jq jrm ?_;refine jN ?_;refine jtn ?_
    refine jjend ((2,b-224,2048)) ?_ (h5:=?_)
    ·show RefSt (bt (l.drop i) 0) _ _ _
     rw [← hb];unfold RefSt;omega
    ·exact .cons (CEnt.int (by omega)) (.cons (CEnt.int (by omega)) (.cons (CEnt.int (by omega)) .nil))
   refine jcr ?_;refine jq jrm ?_;refine jq jrc ?_;refine jq jrm ?_;refine jqsp 41 (fun g19=>?_) fun g19=>?_
   rotate_left
   ·refine jqs ?_;refine jqs ?_;refine jq jrpF ?_;refine jN ?_;refine jcF ?_;refine jcr ?_;refine jq jrm ?_;refine jN ?_
    refine jR (jtr (jbr (jtr (jbr (jtr (jrt (hv:=?_)))))))
    refine CEnt.bool ?_
    rw [← he,ref_bad hne (dec_head_bad (by rw [← hb];omega) (by rw [← hb];omega))]
   refine jq jrm ?_;refine jq jrc ?_;refine jq jrpT ?_;refine jN ?_;refine jcc (fun h19=>?_) fun h19=>?_
   rotate_left
   ·refine jcr ?_;refine jq jrm ?_;refine jN ?_
    refine jR (jtr (jbr (jtr (jbr (jtr (jrt (hv:=?_)))))))
    refine CEnt.bool ?_
    rw [← he,ref_bad hne (dec_head_bad (by rw [← hb];omega) (by rw [← hb];omega))]
   refine jcg ?_;refine jq jrm ?_;refine jq jra ?_;refine jq jrm ?_;refine jq jrm ?_;refine jq jrm ?_;refine jN ?_;refine jtn ?_
   refine jjend ((3,b-240,65536)) ?_ (h5:=?_)
   ·show RefSt (bt (l.drop i) 0) _ _ _
    rw [← hb];unfold RefSt;omega
   ·exact .cons (CEnt.int (by omega)) (.cons (CEnt.int (by omega)) (.cons (CEnt.int (by omega)) .nil))
  ·rintro ⟨n0,c0,least⟩ hR0
   have hR:RefSt (bt (l.drop i) 0) n0 c0 least:=hR0
   clear hR0
   have hRb:=hR
   rw [← hb] at hRb
   unfold RefSt at hRb
   have hn3:n0≤3:=by omega
   have hc128:c0<128:=by omega
   have hl6:least≤65536:=by omega
   clear hRb
   refine jcr ?_;refine jq jrm ?_;refine jq jra ?_;refine jq jrm ?_;refine jN ?_;refine jcs ?_;refine jB ?_;refine l_loop (α:=Nat) [2,3,4,5,49,50,51,52,53,54,55,56,57,58,59,60,61,62,63,64,65,66,67,68,69,70,71,72,73,74,75,76,77,78] (fun j=>[(3,.c (.int .i64 (((i+1+j:Nat):Int)))),(4,.c (.int .i64 (cR (l.drop i) c0 j:Nat))),(5,.c (.int .i64 ((n0-j:Nat):Int)))]) (fun _=>[]) (fun j=>j≤n0∧i+1+j≤l.length∧∀ q,1≤q→q≤j→128≤bt (l.drop i) q∧bt (l.drop i) q≤191) (fun j=>n0-j) (0) ?_ (fun _=>rfl) ?_ ?_ ?_
   ·exact ⟨Nat.zero_le _,by omega,fun q h1 h2=>by omega⟩
   ·exact .cons (CEnt.int (by omega)) (.cons cZ (.cons cZ .nil))
   ·(repeat (first|exact HEnt.nil|refine HEnt.same ?_|refine HEnt.blk rfl (fun j hj=>by rcases j with _|_|_|_|_|_|_|_|j <;> first|exact cZ|exact CEnt.int (by omega)|omega) ?_))
   ·rintro j ⟨hj,hil,hq⟩
    have hcb:=cR_bd (d:=l.drop i) (c0:=c0) (j:=j) (by omega) hc128 hq
    refine jcs ?_;refine jcr ?_;refine jq jrm ?_;refine jq jrc ?_;refine jN ?_;refine jcc (fun h25=>?_) fun h25=>?_
    rotate_left
    ·refine jX (jte (jte (jbx (jtn ?_))))
     have hjn:j=n0:=by omega
     subst hjn
     obtain ⟨C,hjn⟩:∃ C,C=cR (l.drop i) c0 j:=⟨_,rfl⟩
     rw [← hjn] at hcb
     refine jE (weaken 4 (.c (.int .i64 (C:Nat))) (CEnt.int (by rw [hjn]))) ?_;refine jcr ?_;refine jq jrm ?_;refine jq jrm ?_;refine jq jrc ?_;refine jq jrm ?_;refine jqsp 82 (fun g32=>?_) fun g32=>?_
     ·refine jqs ?_;refine jqs ?_;refine jq jrpT ?_;refine jq jrm ?_;refine jqs ?_;refine jqs ?_;refine jqs ?_;refine jqs ?_;refine jqs ?_;refine jqs ?_;refine jq jrpT ?_;refine jN ?_;refine jcT ?_;refine jcr ?_;refine jq jrm ?_;refine jN ?_
      refine jR (jbr (jtr (jbr (jtr (jrt (hv:=?_))))))
      refine CEnt.bool ?_
      rw [← he,ref_end hne hR (by rw [List.length_drop];omega) hq,if_pos (by rw [← hjn];omega)]
     refine jq jrm ?_;refine jq jrc ?_;refine jq jrpF ?_;refine jq jrm ?_;refine jqsp 86 (fun g32_2=>?_) fun g32_2=>?_
     ·refine jqs ?_;refine jqs ?_;refine jqs ?_;refine jqs ?_;refine jqs ?_;refine jqs ?_;refine jq jrpT ?_;refine jN ?_;refine jcT ?_;refine jcr ?_;refine jq jrm ?_;refine jN ?_
      refine jR (jbr (jtr (jbr (jtr (jrt (hv:=?_))))))
      refine CEnt.bool ?_
      rw [← he,ref_end hne hR (by rw [List.length_drop];omega) hq,if_pos (by rw [← hjn];omega)]
     refine jq jrm ?_;refine jq jrc ?_;refine jq jrm ?_;refine jqsp 89 (fun g32_3=>?_) fun g32_3=>?_
     rotate_left
     ·refine jqs ?_;refine jqs ?_;refine jq jrpF ?_;refine jq jrpF ?_;refine jN ?_;refine jcF ?_
      refine jS (jbn (jtn ?_))
      refine jlend (i+(1+j)) ?_ ?_ (h5:=?_)
      ·refine ⟨by omega,?_⟩
       rw [← he,ref_end hne hR (by rw [List.length_drop];omega) hq,if_neg (by rw [← hjn];omega),List.drop_drop]
      ·show l.length-(i+(1+j))<l.length-i;omega
      ·exact .cons (CEnt.int (by omega)) .nil
     refine jq jrm ?_;refine jq jrc ?_;refine jq jrpT ?_;refine jq jrpF ?_;refine jN ?_;refine jcc (fun h32=>?_) fun h32=>?_
     ·refine jcr ?_;refine jq jrm ?_;refine jN ?_
      refine jR (jbr (jtr (jbr (jtr (jrt (hv:=?_))))))
      refine CEnt.bool ?_
      rw [← he,ref_end hne hR (by rw [List.length_drop];omega) hq,if_pos (by rw [← hjn];omega)]
     refine jS (jbn (jtn ?_))
     refine jlend (i+(1+j)) ?_ ?_ (h5:=?_)
     ·refine ⟨by omega,?_⟩
      rw [← he,ref_end hne hR (by rw [List.length_drop];omega) hq,if_neg (by rw [← hjn];omega),List.drop_drop]
     ·show l.length-(i+(1+j))<l.length-i;omega
     ·exact .cons (CEnt.int (by omega)) .nil
    refine jS (jtn ?_)
    refine jcs ?_;refine jB ?_;refine jcs ?_
    obtain ⟨x,hx⟩:∃ x,x=bt (l.drop i) (j+1):=⟨_,rfl⟩
    have hx2:(l.getD (i+1+j) 0).toNat=x:=by rw [hx,bt_drop,show i+(j+1)=i+1+j by omega];rfl
    have hxl:x<256:=by rw [hx];exact bt_lt _ _
    refine jcr ?_;refine jq jrm ?_;refine jq jrm ?_;refine jq jrls ?_;refine jq jrc ?_;refine jq jrm ?_;refine jqsp 57 (fun g26=>?_) fun g26=>?_
    ·refine jqs ?_;refine jqs ?_;refine jqs ?_;refine jqs ?_;refine jq jrpT ?_;refine jq jrm ?_;refine jqs ?_;refine jqs ?_;refine jqs ?_;refine jqs ?_;refine jq jrpT ?_;refine jN ?_;refine jcT ?_;refine jcr ?_;refine jq jrm ?_;refine jN ?_
     refine jR (jtr (jbr (jtr (jtr (jbr (jtr (jbr (jtr (jbr (jtr (jrt (hv:=?_))))))))))))
     refine CEnt.bool ?_
     rw [← he,ref_cont hne hR (show j<n0 by omega) (by rw [← hx,List.length_drop];omega)]
    refine jq jrm ?_;refine jq jrm ?_;refine jq jrix ?_;refine jq jrc ?_;refine jq jrpF ?_;refine jq jrm ?_;refine jqsp 63 (fun g26_2=>?_) fun g26_2=>?_
    ·refine jqs ?_;refine jqs ?_;refine jqs ?_;refine jqs ?_;refine jq jrpT ?_;refine jN ?_;refine jcT ?_;refine jcr ?_;refine jq jrm ?_;refine jN ?_
     refine jR (jtr (jbr (jtr (jtr (jbr (jtr (jbr (jtr (jbr (jtr (jrt (hv:=?_))))))))))))
     refine CEnt.bool ?_
     rw [← he,ref_cont hne hR (show j<n0 by omega) (by rw [← hx,List.length_drop];omega)]
    refine jq jrm ?_;refine jq jrm ?_;refine jq jrix ?_;refine jq jrc ?_;refine jq jrpF ?_;refine jN ?_;refine jcc (fun h26=>?_) fun h26=>?_
    ·refine jcr ?_;refine jq jrm ?_;refine jN ?_
     refine jR (jtr (jbr (jtr (jtr (jbr (jtr (jbr (jtr (jbr (jtr (jrt (hv:=?_))))))))))))
     refine CEnt.bool ?_
     rw [← he,ref_cont hne hR (show j<n0 by omega) (by rw [← hx,List.length_drop];omega)]
    refine jS (jtn ?_)
    refine jcr ?_;refine jq jrm ?_;refine jq jra ?_;refine jq jrm ?_;refine jq jrm ?_;refine jq jrix ?_;refine jq (jrv8 .i64) ?_;refine jq jra ?_;refine jq jra ?_;refine jq jrm ?_;refine jN ?_;refine jcg ?_;refine jq jrm ?_;refine jq jra ?_;refine jq jrm ?_;refine jN ?_
    refine jbn (jtn ?_)
    refine jcg ?_;refine jq jrm ?_;refine jq jra ?_;refine jq jrm ?_;refine jN ?_;refine jtn ?_
    refine jlend (j+1) ?_ ?_ (h5:=?_)
    ·refine ⟨by omega,by omega,fun q h1 h2=>?_⟩
     by_cases e:q=j+1
     ·rw [e,← hx];omega
     ·exact hq q h1 (by omega)
    ·show n0-(j+1)<n0-j;omega
    ·exact .cons (CEnt.int (by omega)) (.cons (CEnt.int (by show _=((cR (l.drop i) c0 j * 64+bt (l.drop i) (j+1)-128:Nat):Int);rw [← hx];omega)) (.cons (CEnt.int (by omega)) .nil))
end
section
open Go.RowKit
def bitsR (b:List UInt8):Nat:=rev8 (b.getD 1 0).toNat+256 * (if b.length=3 then rev8 (b.getD 2 0).toNat else 0)
def turnM (m:Nat):Nat→Nat
 | 0=>rev16 m
 | j+1=>turnM m j % 256 * 256
def outL (m:Nat):Nat→List UInt8
 | 0=>[UInt8.ofNat ((8-bl m % 8) % 8)]
 | j+1=>outL m j++[UInt8.ofNat (turnM m j / 256)]
def bp (M:Nat):Nat→Nat
 | 0=>0
 | i+1=>if M / 2 ^ i % 2=1 then i+1 else bp M i
def turnedM (b:List UInt8):Nat:=(b.getD 1 0).toNat % 256 * 256+(if b.length=3 then (b.getD 2 0).toNat else 0)
end
section
variable {gs:List Nat} [Ok9 gs]
open Go.RowKit


def rF (M n i:Nat) (j:Nat):CV:=.c (.int .u8 ((gF M n i j:Nat):Int))
end
section
variable {gs:List Nat} [OkG gs]
open Go.RowKit
set_option linter.unusedVariables false
end
section
variable {gs:List Nat} [Ok9 gs]
open Go.RowKit

theorem asked_ac [OkT gs] (l:List UInt8) (most:Int) (hl:l.length≤1000000000):ACp gs Tryz.prog 130 [strC l,.c (.int .i64 most)] (.err (askedM l most)):=by
 refine ac_of 20 Tryz.func130 rfl rfl rfl (fun al w0 F0 St0=>?_)
 refine jcr ?_;refine jq jrm ?_;refine jN ?_;refine jcs ?_;refine jB ?_;refine jcr ?_;refine jq jrm ?_;refine jq jrcs ?_;refine jq jrm ?_;refine jN ?_;refine jcc (fun h47=>?_) fun h47=>?_
 ·refine jcr ?_;refine jq (jrde 1) ?_;refine jq jrm ?_;refine jN ?_
  refine jR (jbr (jtr (jrt (hv:=CEnt.errN (by unfold askedM;rw [if_pos (by simpa using h47)])))))
 refine jcr ?_;refine jq jrm ?_;refine jq jrls ?_;refine jq jrm ?_;refine jq jrc ?_;refine jq jrm ?_;refine jN ?_;refine jcc (fun h49=>?_) fun h49=>?_
 ·refine jcr ?_;refine jq (jrde 2) ?_;refine jq jrm ?_;refine jN ?_
  refine jR (jbr (jtr (jrt (hv:=CEnt.errN (by unfold askedM;rw [if_neg (by simpa using h47),if_pos h49])))))
 refine jcr ?_;refine jq jrm ?_
 refine jqe (jecP (plain07_ac l hl) ?_)
 refine jq jrn ?_;refine jq jrm ?_;refine jN ?_;refine jcc (fun h51=>?_) fun h51=>?_
 ·refine jcr ?_;refine jq (jrde 7) ?_;refine jq jrm ?_;refine jN ?_
  refine jR (jbr (jtr (jrt (hv:=CEnt.errN (by unfold askedM;rw [if_neg (by simpa using h47),if_neg h49,if_pos (by simpa using h51)])))))
 refine jS (jbn (jtn ?_))
 refine jcr ?_;refine jq jrm ?_;refine jN ?_
 refine jR (jrt (hv:=CEnt.nilE (by unfold askedM;rw [if_neg (by simpa using h47),if_neg h49,if_neg (by simpa using h51)])))
theorem asked_bd (l:List UInt8) (most:Int):askedM l most≤8:=by
 unfold askedM
 repeat' split
 all_goals omega
theorem xput_ac [OkT gs] (l:List UInt8) (most:Int) (hl:l.length≤1000000000):ACp gs Tryz.prog 97 [strC l,.c (.int .i64 most)] (.tup 2 (fl [bsC (if askedM l most=0 then l else []),.err (askedM l most)])):=by
 refine ac_of 15 Tryz.func97 rfl rfl rfl (fun al w0 F0 St0=>?_)
 refine jcr ?_;refine jq jrm ?_;refine jq jrm ?_;refine jN ?_;refine jcs ?_;refine jcr ?_;refine jq jrm ?_;refine jq jrm ?_
 refine jqe (jecP (asked_ac l most hl) ?_)
 refine jq jrm ?_;refine jN ?_;refine jcr ?_;refine jq jrm ?_;refine jq jre ?_;refine jN ?_;refine jcc (fun h59=>?_) fun h59=>?_
 ·refine jcr ?_;refine jq jrm ?_;refine jq jrm ?_;refine jq jrm ?_;refine jN ?_
  refine jR (jtr (jrt (hv:=CEnt.tup2 (CEnt.nilS' (by rw [if_neg h59];rfl)) cZ)))
 refine jS (jtn ?_)
 refine jcr ?_;refine jq jrm ?_
 refine jqe (jecv ?_)
 refine jq jrm ?_;refine jq jrm ?_;refine jN ?_
 refine jR (jrt (hv:=?_))
 have h:askedM l most=0:=by omega
 exact CEnt.tup2 (CEnt.bs (by rw [if_pos h])) (CEnt.nilE h)
theorem xget_ac [OkT gs] (l:List UInt8) (most:Int) (hl:l.length≤1000000000):ACp gs Tryz.prog 145 [bsC l,.c (.int .i64 most)] (.tup 2 (fl [strC (if askedM l most=0 then l else []),.err (askedM l most)])):=by
 refine ac_of 17 Tryz.func145 rfl rfl rfl (fun al w0 F0 St0=>?_)
 refine jcr ?_;refine jq jrm ?_;refine jq jrm ?_;refine jN ?_;refine jcr ?_;refine jq jrm ?_
 first|refine jq jrbs ?_|refine jqo jrbo ?_|refine jq jrbn ?_
 refine jq jrm ?_;refine jN ?_;refine jcs ?_;refine jcr ?_;refine jq jrm ?_;refine jq jrm ?_
 refine jqe (jecP (asked_ac l most hl) ?_)
 refine jq jrm ?_;refine jN ?_;refine jcr ?_;refine jq jrm ?_;refine jq jre ?_;refine jN ?_;refine jcc (fun h68=>?_) fun h68=>?_
 ·refine jcr ?_;refine jq jrm ?_;refine jq jrm ?_;refine jq jrm ?_;refine jN ?_
  refine jR (jtr (jrt (hv:=CEnt.tup2 (CEnt.strL (by rw [if_neg h68])) cZ)))
 refine jS (jtn ?_)
 refine jcr ?_;refine jq jrm ?_;refine jq jrm ?_;refine jq jrm ?_;refine jN ?_
 refine jR (jrt (hv:=?_))
 have h:askedM l most=0:=by omega
 exact CEnt.tup2 (CEnt.strL (by rw [if_pos h])) (CEnt.nilE h)
theorem rasked_ac {gs:List Nat} (l:List UInt8) (most:Int) (hl:l.length≤1000000000):ACp gs Tryz.prog 90 [strC l,.c (.int .i64 most)] (.c (.int .i64 (askedM l most:Nat))):=by
 refine ac_of 15 Tryz.func90 rfl rfl rfl (fun al w0 F0 St0=>?_)
 refine jcr ?_;refine jq jrm ?_;refine jN ?_;refine jcs ?_;refine jcr ?_;refine jq jrm ?_;refine jq jrls ?_;refine jq jrc ?_;refine jN ?_;refine jcc (fun h55=>?_) fun h55=>?_
 ·refine jcr ?_;refine jq jrm ?_;refine jN ?_
  refine jR (jtr (jrt (hv:=CEnt.int (by unfold askedM;rw [if_pos (by omega)];rfl))))
 refine jS (jtn ?_)
 refine jcs ?_;refine jcr ?_;refine jq jrm ?_;refine jq jrls ?_;refine jq jrm ?_;refine jq jrc ?_;refine jN ?_;refine jcc (fun h58=>?_) fun h58=>?_
 ·refine jcr ?_;refine jq jrm ?_;refine jN ?_
  refine jR (jtr (jrt (hv:=CEnt.int (by unfold askedM;rw [if_neg (by omega),if_pos h58];rfl))))
 refine jS (jtn ?_)
 refine jcs ?_;refine jcr ?_;refine jq jrm ?_
 refine jqe (jecP (rplain_ac l hl) ?_)
 refine jq jrn ?_;refine jN ?_;refine jcc (fun h61=>?_) fun h61=>?_
 ·refine jcr ?_;refine jq jrm ?_;refine jN ?_
  refine jR (jtr (jrt (hv:=CEnt.int (by unfold askedM;rw [if_neg (by omega),if_neg h58,if_pos (by simpa using h61)];rfl))))
 refine jS (jtn ?_)
 refine jcr ?_;refine jq jrm ?_;refine jN ?_
 refine jR (jrt (hv:=CEnt.int (by unfold askedM;rw [if_neg (by omega),if_neg h58,if_neg (by simpa using h61)];rfl)))
end
section
variable {gs:List Nat} [Ok9 gs]
open Go.RowKit Cal

theorem doneW_ac (n:Nat) (s:W8) (hs:OkW s):AC gs Tryz.prog 30 [wrO n s] [.op 0 (some n) 0] (fun r H'=>r=.tup 2 (fl [bsC (doneB s),.err (doneK s)])∧H'=[wrO n s]):=by
 have hsd:=hs.d
 have bad:∀ {e},doneK s=e→e≠0→doneB s=[]:=fun h h0=>by unfold doneB;rw [h,if_neg h0]
 refine ac_of 35 Tryz.func30 rfl rfl rfl (fun al w0 F0 St0=>?_)
 refine jcr ?_;refine jq jrm ?_;refine jq jrm ?_;refine jN ?_;refine jcs ?_;refine jB ?_;refine code_openW 0 rfl fun go gd zs hzs=>?_;refine jcr ?_;refine jq jrm ?_;refine jq jrnc ?_;refine jq (jrfa 2 1 false) ?_;refine jqo jrdo ?_;refine jq jre ?_;refine jq jrm ?_;refine jN ?_;refine jcc (fun h140=>?_) fun h140=>?_
 ·refine jcs ?_;refine jcd (.rd 0 (.rd 1 (.rd 2 (.rd 3 (.rd 4 (.rd 5 .done)))))) ?_;refine jyq jrm ?_;refine jyq jrnc ?_;refine jyq (jrfa 2 1 false) ?_;refine jyo jrdo ?_;refine jyq jrm ?_;refine jyq jrm ?_;refine jyd ?_;refine jtn ?_
  refine jR (jbr (jtr ?_))
  have e:doneK s=s.k:=by unfold doneK;rw [if_pos (by omega)]
  exact end_packV (gd:=fun z:WZ8 s.fr=>z.1.1) (E:=wrE s) (.inl rfl) ⟨(n,go,gd,zs),hzs⟩ [0,1,2,3] (by decide) rfl (res_2 rfl javt javt) (CEnt.tup2 (by rw [bad e (by omega)];exact CEnt.nilB) (CEnt.err e.symm))
 refine jcr ?_;refine jq jrm ?_;refine jq jrnc ?_;refine jq (jrfa 0 1 false) ?_;refine jqo jrdo ?_;refine jq jrl ?_;refine jq jrc ?_;refine jq jrm ?_;refine jN ?_;refine jcc (fun h142=>?_) fun h142=>?_
 ·refine jcs ?_;refine jcd (.rd 0 (.rd 1 (.rd 2 .done))) ?_;refine jyq (jrde 23) ?_;refine jyq jrm ?_;refine jyq jrm ?_;refine jyd ?_;refine jtn ?_
  refine jR (jbr (jtr ?_))
  have e:doneK s=24:=by unfold doneK;rw [if_neg (by omega),if_pos (by intro h;rw [h] at h142;simp at h142)]
  exact end_packV (gd:=fun z:WZ8 s.fr=>z.1.1) (E:=wrE s) (.inl rfl) ⟨(n,go,gd,zs),hzs⟩ [0,1,2,3] (by decide) rfl (res_2 rfl javt javt) (CEnt.tup2 (by rw [bad e (by omega)];exact CEnt.nilB) (CEnt.err e.symm))
 refine jcr ?_;refine jq jrm ?_;refine jq jrnc ?_;refine jq (jrfa 1 1 false) ?_;refine jqo jrdo ?_;refine jq jrl ?_;refine jq jrc ?_;refine jq jrm ?_;refine jN ?_;refine jcc (fun h144=>?_) fun h144=>?_
 ·refine jcs ?_;refine jcd (.rd 0 (.rd 1 (.rd 2 .done))) ?_;refine jyq (jrde 2) ?_;refine jyq jrm ?_;refine jyq jrm ?_;refine jyd ?_;refine jtn ?_
  refine jR (jbr (jtr ?_))
  have hf0:s.fr=[]:=List.eq_nil_of_length_eq_zero (by omega)
  have e:doneK s=3:=by unfold doneK;rw [if_neg (by omega),if_neg (by simp [hf0]),if_pos (by omega)]
  exact end_packV (gd:=fun z:WZ8 s.fr=>z.1.1) (E:=wrE s) (.inl rfl) ⟨(n,go,gd,zs),hzs⟩ [0,1,2,3] (by decide) rfl (res_2 rfl javt javt) (CEnt.tup2 (by rw [bad e (by omega)];exact CEnt.nilB) (CEnt.err e.symm))
 refine jS (jbn (jtn ?_))
 refine jcr ?_;refine jq jrm ?_;refine jq jrnc ?_;refine jq (jrfa 1 1 false) ?_;refine jqo jrdo ?_
 refine jqm (jmcH 2 (cloneO_ac s.d gd (by omega)) ?_)
 rintro _ _ ⟨rfl,rfl⟩
 refine ⟨_,_,rfl,cZ,?_⟩
 refine jq jrm ?_;refine jq jrm ?_;refine jN ?_;refine jR ?_
 have hf0:s.fr=[]:=List.eq_nil_of_length_eq_zero (by omega)
 have e:doneK s=0:=by unfold doneK;rw [if_neg (by omega),if_neg (by simp [hf0]),if_neg (by omega)]
 exact end_packV (gd:=fun z:WZ8 s.fr=>z.1.1) (E:=wrE s) (.inl rfl) ⟨(n,go,gd,zs),hzs⟩ [0,1,2,3] (by decide) rfl (res_2 rfl javt javt) (CEnt.tup2 (CEnt.bs (by unfold doneB;rw [if_pos e])) (CEnt.nilE e))
theorem intW_ac (n:Nat) (s:W8) (z:Int) (hz:-9223372036854775808≤z∧z≤9223372036854775807) (hs:OkW s):AC gs Tryz.prog 27 [wrO n s] [.op 0 (some n) 0,.c (.int .i64 z)] (fun r H'=>r=.c (.tuple #[])∧H'=[wrO n (putW 2 (putN z) 0 s)]):=by
 have hl:=(putN_len z hz.1 hz.2).2
 refine ac_of 8 Tryz.func27 rfl rfl rfl (fun al w0 F0 St0=>?_)
 refine jcg ?_;refine jq jrm ?_;refine jq jrm ?_
 refine jqe (jecP (wput_ac z hz.1 hz.2) ?_)
 refine jqm (jmcH 0 (putW_ac n s 2 (putN z) 0 hs (by omega)) ?_)
 rintro _ _ ⟨rfl,rfl⟩
 refine ⟨_,_,rfl,cZ,?_⟩
 refine jN ?_
 exact end_own (.inr rfl) _ [_] [0] (by decide) rfl (res_0 rfl) ⟨rfl,rfl⟩
theorem textW_ac [OkT gs] (n:Nat) (s:W8) (t:List UInt8) (most:Int) (ht:t.length≤1000000) (hs:OkW s):AC gs Tryz.prog 62 [wrO n s] [.op 0 (some n) 0,strC t,.c (.int .i64 most)] (fun r H'=>r=.c (.tuple #[])∧H'=[wrO n (putW 12 (if askedM t most=0 then t else []) (askedM t most) s)]):=by
 have hl:(if askedM t most=0 then t else []).length≤1000000:=by split <;> first|omega|simp
 refine ac_of 18 Tryz.func62 rfl rfl rfl (fun al w0 F0 St0=>?_)
 refine jcr ?_;refine jq jrm ?_;refine jq jrm ?_
 refine jqe (jecP (xput_ac t most (by omega)) ?_)
 refine jq jrm ?_;refine jq jrx ?_;refine jq jrx ?_;refine jq jrm ?_;refine jq jrm ?_;refine jN ?_;refine jcg ?_;refine jq jrm ?_;refine jq jrm ?_;refine jq jrm ?_
 refine jqm (jmcH 0 (putW_ac n s 12 (if askedM t most=0 then t else []) (askedM t most) hs hl) ?_)
 rintro _ _ ⟨rfl,rfl⟩
 refine ⟨_,_,rfl,cZ,?_⟩
 refine jN ?_
 exact end_own (.inr rfl) _ [_] [0] (by decide) rfl (res_0 rfl) ⟨rfl,rfl⟩
theorem oidW_ac (n:Nat) (s:W8) (t:List UInt8) (ht:t.length≤1000000) (hs:OkW s):AC gs Tryz.prog 61 [wrO n s] [.op 0 (some n) 0,strC t] (fun r H'=>r=.c (.tuple #[])∧H'=[wrO n (putW 6 (putM t) (parseM t).2 s)]):=by
 have hl:(putM t).length≤1000000:=Nat.le_trans (put_len t) (by decide)
 refine ac_of 15 Tryz.func61 rfl rfl rfl (fun al w0 F0 St0=>?_)
 refine jcr ?_;refine jq jrm ?_
 refine jqe (jecP (oput_ac t (by omega)) ?_)
 refine jq jrm ?_;refine jq jrx ?_;refine jq jrx ?_;refine jq jrm ?_;refine jq jrm ?_;refine jN ?_;refine jcg ?_;refine jq jrm ?_;refine jq jrm ?_;refine jq jrm ?_
 refine jqm (jmcH 0 (putW_ac n s 6 (putM t) (parseM t).2 hs hl) ?_)
 rintro _ _ ⟨rfl,rfl⟩
 refine ⟨_,_,rfl,cZ,?_⟩
 refine jN ?_
 exact end_own (.inr rfl) _ [_] [0] (by decide) rfl (res_0 rfl) ⟨rfl,rfl⟩
end
section
variable {gs:List Nat} [Ok9 gs]
open Go.RowKit Cal

def w0W:W8:=⟨[],[],0⟩
theorem take_set_out {α:Type} (l:List α) (n i:Nat) (x:α) (h:n≤i):(l.set i x).take n=l.take n:=by
 rw [List.take_set,List.set_eq_of_length_le]
 rw [List.length_take];omega
theorem newW {G:Gh} {env:List (Nat×CV)} {b0:Nat→CV} {H:List (Option Nat×Res)} (n i:Nat) {f:Nat→CV} (hi:H[i]?=some (some n,.blk 3 f)) (h0:CEnt (f 0) (.c (.slice none 0 0))) (h1:CEnt (f 1) (.c (.slice none 0 0))) (h2:CEnt (f 2) (.err 0)):EntS G ⟨env,b0,H⟩ ⟨env,b0,H.set i (wrO n w0W)⟩:=by
 have hil:=(List.getElem?_eq_some_iff.1 hi).1
 have os0:∀ {j k:Nat},CEnt (.c (.slice none 0 0)) (.os j none 0 0 k):=fun al St w v h=>⟨rfl,h⟩
 intro St a w hr
 obtain ⟨S1,s1,r1⟩:=ent_none (G:=G) (s:=⟨env,b0,H⟩) (rowF 2 frF frD []) St a w hr
 obtain ⟨S2,s2,r2⟩:=ent_none (G:=G) (s:=⟨env,b0,H++[(none,.blk 0 (rowF 2 frF frD []))]⟩) (byF []) S1 a w r1
 obtain ⟨S3,s3,r3⟩:=bag_new (G:=G) (env:=env) (b0:=b0) (H:=H++[(none,.blk 0 (rowF 2 frF frD []))]++[(none,.blk 0 (byF []))]) S2 a w r2
 obtain ⟨S4,s4,r4⟩:=closeW (G:=G) (env:=env) (b0:=b0) (H:=H++[(none,.blk 0 (rowF 2 frF frD []))]++[(none,.blk 0 (byF []))]++[bagE []]) n w0W [] i H.length (H.length+1) (H.length+2) rfl (go:=none) (gd:=none) (No:=0) (Nd:=0) (f:=f) (Fo:=rowF 2 frF frD []) (Fd:=byF [])
  (by rw [List.append_assoc,List.append_assoc,List.getElem?_append_left hil];exact hi) (by simp) (by simp [List.getElem?_append]) (by simp [List.getElem?_append]) (by simp;omega) (h0.trans os0) (h1.trans os0) h2 (Nat.le_refl _) (fun a h=>absurd h (Nat.not_lt_zero a)) (Nat.le_refl _) (fun a h=>absurd h (Nat.not_lt_zero a)) S3 a w r3
 obtain ⟨S5,s5,r5⟩:=pick_ent (G:=G) (H':=H.set i (wrO n w0W)) (List.range H.length) (range_nodup _) (by
  rw [pickL_range _ _ (by simp)]
  simp only [List.append_assoc]
  rw [take_set_out _ _ _ _ (by omega),take_set_out _ _ _ _ (by omega),take_set_out _ _ _ _ (by omega),List.take_set,List.take_left]) S4 a w r4
 exact ⟨S5,fun b hb=>s5 b (s4 b (s3 b (s2 b (s1 b hb)))),r5⟩
theorem ok0:OkW w0W:=⟨by decide,fun _ h=>(by cases h),by decide⟩
def w1W:W8:=⟨[(48,[])],[],0⟩
def w2W:W8:=⟨[(48,[[2,1,5]])],[],0⟩
def w3W:W8:=⟨[],[48,3,2,1,5],0⟩
def valC (v:VV):CV:=.agg 5 (fl [.c (.int .i64 v.kind),.c (.int .i64 v.n),.c (.bool v.is),bsC v.b,strC v.t])
structure OkV (v:VV):Prop where
 n:-9223372036854775808≤v.n∧v.n≤9223372036854775807
 b:v.b.length≤1000000
 t:v.t.length≤1000000
end
section
variable {gs:List Nat} [Ok9 gs]
open Go.RowKit Cal

theorem rput08_ac {gs:List Nat} (n:Nat) (s:R8) (tag:Int) (b:List UInt8) (hs:OkR s) (ht:0≤tag∧tag<256) (hb:b.length≤1000000):AC gs Tryz.prog 54 [rwO n s] [.op 0 (some n) 0,.c (.int .i64 tag),bsC b] (fun r H'=>r=.c (.tuple #[])∧H'=[rwO n (rputS tag b s)]):=by
 refine ac_of 17 Tryz.func54 rfl rfl rfl (fun al w0 F0 St0=>?_)
 refine jcs ?_;refine jcr ?_;refine jq jrm ?_;refine jq jrl ?_;refine jq jrc ?_;refine jN ?_;refine jcc (fun h64=>?_) fun h64=>?_
 ·refine code_openRW 0 rfl fun gr=>?_;refine jcr ?_;refine jq jrm ?_;refine jq jrnc ?_;refine jq (jrfa 2 1 false) ?_
  refine jqm (jmstF 1 (rwB ⟨s.tags,s.rows,3⟩ 1 gr) ?_ ?_)
  ·exact (fun j hj=>by rcases j with _|_|_|j <;> exact cZ)
  refine jN ?_
  refine jR (jtr ?_)
  have hP:rputS tag b s=⟨s.tags,s.rows,3⟩:=by unfold rputS;rw [if_pos (by omega)]
  rw [hP]
  exact end_closeRW (.inl rfl) n ⟨s.tags,s.rows,3⟩ 1 (res_0 rfl) cZ rfl rfl rfl (by exact cZ) (by exact CEnt.osI rfl) (by exact cZ) (Nat.le_refl _) (fun _ _=>by exact cZ)
 refine jS (jtn ?_)
 refine jcg ?_;refine jq jrm ?_;refine jq jrm ?_;refine jq jrm ?_
 refine jqe (jecP (rput_ac tag b ht (by omega)) ?_)
 refine jqm (jmcH 0 (radd08_ac n s (putL tag b) hs) ?_)
 rintro _ _ ⟨rfl,rfl⟩
 refine ⟨_,_,rfl,cZ,?_⟩
 refine jN ?_
 have hP:rputS tag b s=raddS (putL tag b) s:=by unfold rputS;rw [if_neg (by omega)]
 rw [hP]
 exact end_own (.inr rfl) _ [_] [0] (by decide) rfl (res_0 rfl) ⟨rfl,rfl⟩
def BodyQ (v:VV):CV→List (Option Nat×Res)→Prop:=fun r H'=>(∃ b,r=.tup 3 (fl [.c (.int .i64 (bodyV v).1),bsC b,.c (.int .i64 ((bodyV v).2.2:Nat))])∧((bodyV v).2.2=0→b=(bodyV v).2.1))∧H'=[]
theorem bodyQ {v:VV} {t:Int} {b b':List UInt8} {e:Nat} (h:bodyV v=(t,b,e)) (hb:e=0→b'=b):BodyQ v (.tup 3 (fl [.c (.int .i64 t),bsC b',.c (.int .i64 (e:Nat))])) []:=by
 refine ⟨⟨b',by rw [h],fun h0=>by rw [h] at h0 ⊢;exact hb h0⟩,rfl⟩
theorem rbody3_ac {gs:List Nat} (v:VV) (hv:OkV v) (h3:v.kind=3):AC gs Tryz.prog 57 [] [valC v] (BodyQ v):=by
 have hvn:=hv.n
 refine ac_of 77 Tryz.func57 rfl rfl rfl (fun al w0 F0 St0=>?_)
 refine jcr ?_
 refine jqe (jebx 5 fun p1=>?_)
 refine jq jrm ?_;refine jq jrm ?_;refine jq jrm ?_;refine jN ?_;refine jcs ?_;refine jcr ?_;refine jq (jrfa 0 1 false) ?_;refine jqo jrdo ?_;refine jN ?_;refine jB ?_;refine jcr ?_;refine jq jrc ?_;refine jq jrm ?_;refine jN ?_;refine jcc (fun h31=>?_) fun h31=>?_
 rotate_left
 ·exfalso;omega
 refine jcr ?_;refine jq (jrfa 1 1 false) ?_;refine jqo jrdo ?_
 refine jqe (jecP (rput04_ac v.n hv.n.1 hv.n.2) ?_)
 refine jq jrm ?_;refine jq jrm ?_;refine jq jrm ?_;refine jN ?_
 refine jR (jbr (jtr ?_))
 exact end_ownV (.inl rfl) [] (by decide) rfl (res_3 rfl javt javt javt) cZ (bodyQ (by unfold bodyV;rw [if_pos (by omega)]) (fun _=>rfl))
end
section
variable {gs:List Nat} [Ok9 gs]
open Go.RowKit Cal

structure OkRD (s:R8):Prop where
 ok:OkR s
 sum:∀ j,sumL (s.rows.getD j [])≤1000000
 tag:∀ x ∈ s.tags,0≤x∧x<256
 lt:s.tags.length≠0→s.tags.length<s.rows.length
theorem rdone08_ac {gs:List Nat} (n:Nat) (s:R8) (hs:OkRD s):AC gs Tryz.prog 31 [rwO n s] [.op 0 (some n) 0] (fun r H'=>r=.tup 2 (fl [bsC (rdoneB s),.c (.int .i64 (rdoneE s:Nat))])∧H'=[rwO n s]):=by
 have hk0:=okR_at hs.ok 0
 have hs0:=hs.sum 0
 have bad:∀ {e},rdoneE s=e→e≠0→rdoneB s=[]:=fun h h0=>by unfold rdoneB;rw [h,if_neg h0]
 refine ac_of 48 Tryz.func31 rfl rfl rfl (fun al w0 F0 St0=>?_)
 refine jcr ?_;refine jq jrm ?_;refine jq jrm ?_;refine jN ?_;refine jcs ?_;refine code_openRW 0 rfl fun gr=>?_;refine jcr ?_;refine jq jrm ?_;refine jq jrnc ?_;refine jq (jrfa 2 1 false) ?_;refine jqo jrdo ?_;refine jq jrc ?_;refine jN ?_;refine jcc (fun h133=>?_) fun h133=>?_
 ·refine jcs ?_;refine jcd (.rd 0 (.rd 1 (.rd 2 (.rd 3 (.rd 4 (.rd 5 .done)))))) ?_;refine jyq jrm ?_;refine jyq jrnc ?_;refine jyq (jrfa 2 1 false) ?_;refine jyo jrdo ?_;refine jyq jrm ?_;refine jyq jrm ?_;refine jyd ?_;refine jtn ?_
  refine jR (jtr ?_)
  have e:rdoneE s=s.e:=by unfold rdoneE;rw [if_pos (by omega)]
  exact end_closeRW (.inl rfl) n s 1 (res_2 rfl javt javt) (CEnt.tup2 (by rw [bad e (by omega)];exact CEnt.nilB) (CEnt.int (by rw [e]))) rfl rfl rfl (by exact cZ) (by exact CEnt.osI rfl) (by exact cZ) (Nat.le_refl _) (fun _ _=>by exact cZ)
 refine jS (jtn ?_)
 refine jcs ?_;refine jcr ?_;refine jq jrm ?_;refine jq jrnc ?_;refine jq (jrfa 0 1 false) ?_;refine jqo jrdo ?_;refine jq jrl ?_;refine jq jrc ?_;refine jN ?_;refine jcc (fun h136=>?_) fun h136=>?_
 ·refine jcr ?_;refine jq jrm ?_;refine jq jrm ?_;refine jN ?_
  refine jR (jtr ?_)
  have e:rdoneE s=24:=by unfold rdoneE;rw [if_neg (by omega),if_pos (by omega)]
  exact end_closeRW (.inl rfl) n s 1 (res_2 rfl javt javt) (CEnt.tup2 (by rw [bad e (by omega)];exact CEnt.nilB) (CEnt.int (by rw [e];rfl))) rfl rfl rfl (by exact cZ) (by exact CEnt.osI rfl) (by exact cZ) (Nat.le_refl _) (fun _ _=>by exact cZ)
 refine jS (jtn ?_)
 refine jcr ?_
 refine jqe (jebl 0 1 zr5 fun p1=>?_)
 refine jq jrm ?_;refine jN ?_;refine jcs ?_;refine jcr ?_;refine jq jrm ?_;refine jq jrnc ?_;refine jq (jrfa 1 1 false) ?_;refine jqo jrdo ?_;refine jq jrl ?_;refine jq jrc ?_;refine jN ?_;refine jcc (fun h140=>?_) fun h140=>?_
 rotate_left
 ·refine jS (jtn ?_)
  refine jcs ?_
  first
   |(have hiE:i=(s.rows.getD 0 []).length:=by omega
     subst hiE
     dsimp only
     rw [List.take_length] at *
     have hfl:=flat_len (s.rows.getD 0 []))
   |(have h00:s.rows.getD 0 []=[]:=by rw [List.getD_eq_getElem?_getD,List.getElem?_eq_none (by omega)];rfl
     have hfl:((s.rows.getD 0 []).flatten).length=0:=by rw [h00];rfl)
  refine jcr ?_;refine jq jrm ?_;refine jq jrl ?_;refine jq jrc ?_;refine jN ?_;refine jcc (fun h145=>?_) fun h145=>?_
  ·refine jcr ?_;refine jq jrm ?_;refine jq jrm ?_;refine jN ?_
   refine jR (jtr ?_)
   first
    |(exfalso;simp at h145;done)
    |(have e:rdoneE s=3:=by unfold rdoneE;rw [if_neg (by omega),if_neg (by omega),if_pos (by omega)]
      exact end_closeRW (.inl rfl) n s 1 (res_2 rfl javt javt) (CEnt.tup2 (by rw [bad e (by omega)];exact CEnt.nilB) (CEnt.int (by rw [e];rfl))) rfl rfl rfl (by exact cZ) (by exact CEnt.osI rfl) (by exact cZ) (Nat.le_refl _) (fun _ _=>by exact cZ))
  refine jS (jtn ?_)
  refine jcr ?_;refine jq jrm ?_;refine jq jrm ?_;refine jq jrm ?_;refine jN ?_;refine jE (freeze 2 rfl) ?_
  first
   | refine jE (thawB 2 ((s.rows.getD 0 []).flatten) rfl rfl rfl rfl) ?_
   | refine jE (thawBL 2 [] rfl rfl rfl rfl .nil) ?_
  refine jR ?_
  have e:rdoneE s=0:=by unfold rdoneE;rw [if_neg (by omega),if_neg (by omega),if_neg (by omega)]
  exact end_closeRW (.inl rfl) n s 1 (res_2 rfl javt javt) (CEnt.tup2 (CEnt.bs (by unfold rdoneB;rw [if_pos e];(rw [h00];rfl))) (CEnt.int (by rw [e];rfl))) rfl rfl rfl (by exact cZ) (by exact CEnt.osI rfl) (by exact cZ) (Nat.le_refl _) (fun _ _=>by exact cZ)
 refine jcr ?_;refine jq jrm ?_;refine jq jrnc ?_;refine jq (jrfa 1 1 false) ?_;refine jqo jrdo ?_;refine jq (jri (i:=0)) ?_;refine jqo jrdo ?_;refine jq jrl ?_;refine jq jrm ?_;refine jN ?_;refine jB ?_;refine l_loop (α:=Nat×Option Nat) [4,6,36,37,38,39,40,41,42,43] (fun (i,g)=>[(4,.os 2 g 0 (((s.rows.getD 0 []).take i).flatten).length 1),(36,.c (.int .i64 (i:Nat)))]) (fun (i,g)=>[(some n,.blk 3 (rwB s 1 gr)),(gr,.blk s.rows.length (rowsF s.rows)),(g,.blk (((s.rows.getD 0 []).take i).flatten).length (byF ((s.rows.getD 0 []).take i).flatten))]) (fun i=>i.1≤(s.rows.getD 0 []).length) (fun i=>(s.rows.getD 0 []).length-i.1) ((0,p1)) ?_ (fun _=>rfl) ?_ ?_ ?_
 ·exact Nat.zero_le _
 ·exact .cons (CEnt.osI rfl) (.cons cZ .nil)
 ·exact .same (.same (.blk rfl (fun j hj=>absurd hj (Nat.not_lt_zero j)) .nil))
 ·rintro ⟨i,g⟩ (hi:i≤(s.rows.getD 0 []).length)
  refine jcr ?_;refine jq jrc ?_;refine jN ?_;refine jcs ?_;refine jcc (fun h141=>?_) fun h141=>?_
  ·refine jS (jtn ?_)
   refine jcs ?_;refine jB ?_;refine jcr ?_;refine jq jri ?_;refine jq jrdr ?_;refine jq jrm ?_;refine jN ?_
   have hf1:=sumL_take (ls:=s.rows.getD 0 []) (i:=i) (by omega)
   have hf2:=sumL_le (s.rows.getD 0 []) (i+1)
   have hf3:=flat_len ((s.rows.getD 0 []).take i)
   refine jcg ?_;refine jq jrm ?_;refine jq jrm ?_
   first|refine jqm (m_appendB rfl rfl rfl (Nat.le_refl _) (fun _ _=>cZ) (src_rs rfl) rfl (fun j hj=>by simp only [Nat.div_one];exact cZ) Tryz.underlying22 nu22 sz5 zr5 by5 rfl (by omega) (fun j hj=>rfl) rfl rfl (fun p2=>?_))|refine jqm (m_appendB rfl rfl rfl (Nat.le_refl _) (fun _ _=>cZ) (src_str rfl) rfl (fun j hj=>cZ) Tryz.underlying22 nu22 sz5 zr5 by5 rfl (by first|omega|(simp;done)|(simp;omega)|(simp at *;omega)) (fun j hj=>rfl) rfl rfl (fun p2=>?_))|refine jqm (m_appendB rfl rfl rfl (Nat.le_refl _) (fun _ _=>cZ) (src_os rfl (.inl rfl) (by omega)) rfl (fun j hj=>by rw [Nat.zero_add];exact cZ) Tryz.underlying22 nu22 sz5 zr5 by5 rfl (by first|omega|(simp;done)|(simp;omega)|(simp at *;omega)) (fun j hj=>rfl) rfl rfl (fun p2=>?_))
   refine jq jrm ?_;refine jN ?_
   refine jbn (jtn ?_)
   refine jcg ?_;refine jq jra ?_;refine jq jrm ?_;refine jN ?_;refine jtn ?_
   refine jlend ((i+1,p2)) ?_ ?_ (h5:=?_) (h7:=?_)
   ·show i+1≤(s.rows.getD 0 []).length;omega
   ·show (s.rows.getD 0 []).length-(i+1)<(s.rows.getD 0 []).length-i;omega
   ·simp only [flat_take (show i<(s.rows.getD 0 []).length by omega)]
    exact .cons (CEnt.osI rfl) (.cons (CEnt.int (by omega)) .nil)
   ·simp only [flat_take (show i<(s.rows.getD 0 []).length by omega)]
    exact .same (.same (.same .nil))
  refine jX (jte (jte (jbx (jtn ?_))))
  refine jcs ?_
  first
   |(have hiE:i=(s.rows.getD 0 []).length:=by omega
     subst hiE
     dsimp only
     rw [List.take_length] at *
     have hfl:=flat_len (s.rows.getD 0 []))
   |(have h00:s.rows.getD 0 []=[]:=by rw [List.getD_eq_getElem?_getD,List.getElem?_eq_none (by omega)];rfl
     have hfl:((s.rows.getD 0 []).flatten).length=0:=by rw [h00];rfl)
  refine jcr ?_;refine jq jrm ?_;refine jq jrl ?_;refine jq jrc ?_;refine jN ?_;refine jcc (fun h145=>?_) fun h145=>?_
  ·refine jcr ?_;refine jq jrm ?_;refine jq jrm ?_;refine jN ?_
   refine jR (jtr ?_)
   first
    |(exfalso;simp at h145;done)
    |(have e:rdoneE s=3:=by unfold rdoneE;rw [if_neg (by omega),if_neg (by omega),if_pos (by omega)]
      exact end_closeRW (.inl rfl) n s 1 (res_2 rfl javt javt) (CEnt.tup2 (by rw [bad e (by omega)];exact CEnt.nilB) (CEnt.int (by rw [e];rfl))) rfl rfl rfl (by exact cZ) (by exact CEnt.osI rfl) (by exact cZ) (Nat.le_refl _) (fun _ _=>by exact cZ))
  refine jS (jtn ?_)
  refine jcr ?_;refine jq jrm ?_;refine jq jrm ?_;refine jq jrm ?_;refine jN ?_;refine jE (freeze 2 rfl) ?_
  first
   | refine jE (thawB 2 ((s.rows.getD 0 []).flatten) rfl rfl rfl rfl) ?_
   | refine jE (thawBL 2 [] rfl rfl rfl rfl .nil) ?_
  refine jR ?_
  have e:rdoneE s=0:=by unfold rdoneE;rw [if_neg (by omega),if_neg (by omega),if_neg (by omega)]
  exact end_closeRW (.inl rfl) n s 1 (res_2 rfl javt javt) (CEnt.tup2 (CEnt.bs (by unfold rdoneB;rw [if_pos e];done)) (CEnt.int (by rw [e];rfl))) rfl rfl rfl (by exact cZ) (by exact CEnt.osI rfl) (by exact cZ) (Nat.le_refl _) (fun _ _=>by exact cZ)
end
section
variable {gs:List Nat} [Ok9 gs]
open Go.RowKit Cal

theorem okRD_tail {s:R8} (h:OkRD s):OkR ⟨s.tags.take (s.tags.length-1),s.rows,s.e⟩:=⟨by have:=h.ok.n;simp only [List.length_take];omega,h.ok.r,h.ok.k⟩
theorem bodyF_if (t:Int) (l:List (List UInt8)):bodyF (t,l)=if t=49 then (sortL l).flatten else l.flatten:=rfl
theorem in_take {l:List Int} {i:Nat} (h:i<l.length-1):inF l i=inF (l.take (l.length-1)) i:=by
 simp only [inF,List.getD_eq_getElem?_getD,List.getElem?_take,h,if_true]
def lsF (t:Int) (l:List (List UInt8)):List (List UInt8):=if t=49 then sortL l else l
theorem lsF_body (t:Int) (l:List (List UInt8)):bodyF (t,l)=(lsF t l).flatten:=by unfold lsF;rw [bodyF_if];split <;> rfl
theorem lsF_len (t:Int) (l:List (List UInt8)):(lsF t l).length=l.length∧sumL (lsF t l)=sumL l:=by
 unfold lsF
 split
 ·exact ⟨sortL_length l,sum_perm (sortL_perm l)⟩
 ·exact ⟨rfl,rfl⟩
theorem body_tag (v:VV):0≤(bodyV v).1∧(bodyV v).1<256:=by
 unfold bodyV
 repeat' split
 all_goals (constructor <;> dsimp only <;> omega)
theorem bodyV_len {v:VV} (h:OkV v):(bodyV v).2.1.length≤1000000:=by
 have h1:=h.b
 have h2:=h.t
 have h3:=(putN_len v.n h.n.1 h.n.2).2
 have h4:=put_len v.t
 unfold bodyV
 split
 ·show (putN v.n).length≤_;omega
 ·split
  ·show (putN v.n).length≤_;omega
  ·split
   ·show [if v.is then (255:UInt8) else 0].length≤_;simp
   ·split
    ·exact h1
    ·split
     ·show (if askedM v.t v.n=0 then v.t else []).length≤_;split <;> first|omega|simp
     ·split
      ·show (putM v.t).length≤_;omega
      ·split
       ·show (if inT v.n then bodyL (ofM v.n) else []).length≤_
        split
        ·exact Nat.le_trans (Nat.le_of_eq (show (bodyL (ofM v.n)).length=15 from rfl)) (by decide)
        ·simp
       ·show (bitsL v.n).length≤_
        unfold bitsL
        split
        ·simp
        ·rw [flags_len (by omega)]
         have:=(bl_is (m:=v.n.toNat) (by omega)).2
         omega
set_option maxHeartbeats 4000000 in
theorem rdoWB_ac {gs:List Nat} (n:Nat) (s:R8) (v:VV) (hs:OkRD s) (hv:OkV v) (hB:v.kind≠1→v.kind≠2→v.kind≠11→AC gs Tryz.prog 57 [] [valC v] (BodyQ v)):AC gs Tryz.prog 25 [rwO n s] [.op 0 (some n) 0,valC v] (fun r H'=>r=.c (.tuple #[])∧H'=[rwO n (rdoS v s)]):=by
 have hsn:=hs.ok.n
 have hsr:=hs.ok.r
 have hvb:=hv.b
 have hkk:=okR_at hs.ok s.tags.length
 have hss:=hs.sum s.tags.length
 refine ac_of 183 Tryz.func25 rfl rfl rfl (fun al w0 F0 St0=>?_)
 refine jcr ?_
 refine jqe (jebx 5 fun p1=>?_)
 refine jN ?_;refine jcs ?_;refine code_openRW 0 rfl fun gr=>?_;refine jE (freeze 1 rfl) ?_;refine jE (thawP 3 (m:=5) rfl rfl (by decide)) ?_
 dsimp only [List.set_cons_zero,List.set_cons_succ,List.cons_append,List.nil_append,List.length_cons,List.length_nil,Nat.zero_add,Nat.reduceAdd]
 refine jcr ?_;refine jq jrm ?_;refine jq jrnc ?_;refine jq (jrfa 2 1 false) ?_;refine jqo jrdo ?_;refine jq jrc ?_;refine jN ?_;refine jcc (fun h81=>?_) fun h81=>?_
 ·refine jR (jtr ?_)
  rw [show rdoS v s=s by unfold rdoS;rw [if_pos (by omega)]]
  exact end_closeRW (.inl rfl) n s 2 (res_0 rfl) cZ rfl rfl rfl (by exact cZ) (by exact CEnt.osI rfl) (by exact cZ) (Nat.le_refl _) (fun _ _=>by exact cZ)
 refine jS (jtn ?_)
 refine jcr ?_;refine jq (jrfa 0 1 false) ?_;refine jq jrdr ?_;refine jN ?_;refine jB ?_;refine jcr ?_;refine jq jrc ?_;refine jq jrm ?_;refine jN ?_;refine jcc (fun h85=>?_) fun h85=>?_
 ·refine jcr ?_;refine jq (jrfa 1 1 false) ?_;refine jq jrdr ?_
  refine jqe (jecP (rmade_ac v.n) ?_)
  refine jq jrn ?_;refine jN ?_;refine jcc (fun h86=>?_) fun h86=>?_
  ·refine jcg ?_;refine jq jrm ?_;refine jq jrnc ?_;refine jq (jrfa 2 1 false) ?_
   refine jqm (jmstF 1 (rwB ⟨s.tags,s.rows,5⟩ 2 gr) ?_ ?_)
   ·exact (fun j hj=>by rcases j with _|_|_|j <;> exact cZ)
   refine jN ?_;refine jbn ?_
   rw [show rdoS v s=⟨s.tags,s.rows,5⟩ by unfold rdoS;rw [if_neg (by omega),if_pos (by omega)];unfold ropenS;rw [if_pos (by simp [madeM] at h86 ⊢;omega)]]
   exact end_closeRW (.inr rfl) n ⟨s.tags,s.rows,5⟩ 2 (res_0 rfl) cZ rfl rfl rfl (by exact cZ) (by exact CEnt.osI rfl) (by exact cZ) (Nat.le_refl _) (fun _ _=>by exact cZ)
  refine jcr ?_;refine jq jrm ?_;refine jq jrnc ?_;refine jq (jrfa 0 1 false) ?_;refine jqo jrdo ?_;refine jq jrl ?_;refine jq jrc ?_;refine jN ?_;refine jcc (fun h88=>?_) fun h88=>?_
  ·refine jcg ?_;refine jq jrm ?_;refine jq jrnc ?_;refine jq (jrfa 2 1 false) ?_
   refine jqm (jmstF 1 (rwB ⟨s.tags,s.rows,6⟩ 2 gr) ?_ ?_)
   ·exact (fun j hj=>by rcases j with _|_|_|j <;> exact cZ)
   refine jN ?_;refine jbn ?_
   rw [show rdoS v s=⟨s.tags,s.rows,6⟩ by unfold rdoS;rw [if_neg (by omega),if_pos (by omega)];unfold ropenS;rw [if_neg (by simp [madeM] at h86 ⊢;omega),if_pos (by omega)]]
   exact end_closeRW (.inr rfl) n ⟨s.tags,s.rows,6⟩ 2 (res_0 rfl) cZ rfl rfl rfl (by exact cZ) (by exact CEnt.osI rfl) (by exact cZ) (Nat.le_refl _) (fun _ _=>by exact cZ)
  refine jcs ?_;refine jB ?_;refine l_loop (α:=Nat×Option Nat) [56,57,58,59,60,61,62,63,64,65,66,67,68,69,70,71,72,73,74,75,76] (fun i=>[]) (fun (i,g)=>[(some n,.blk 3 (rwB (moreS s i) 2 g)),(p1,.frz 5 (fl [.c (.int .i64 v.kind),.c (.int .i64 v.n),.c (.bool v.is),bsC v.b,strC v.t])),(g,.blk (moreS s i).rows.length (rowsF (moreS s i).rows))]) (fun i=>i.1≤s.tags.length+2-s.rows.length) (fun i=>s.tags.length+2-s.rows.length-i.1) ((0,gr)) ?_ (fun _=>rfl) ?_ ?_ ?_
  ·exact Nat.zero_le _
  ·(repeat (exact EntE.nil))
  ·(show HEnt _ [(some n,Res.blk 3 (rwB (moreS s 0) 2 gr)),_,(gr,.blk (moreS s 0).rows.length (rowsF (moreS s 0).rows))];rw [show moreS s 0=s by unfold moreS;simp];exact HEnt.refl _)
  ·rintro ⟨i,g⟩ (hi:i≤s.tags.length+2-s.rows.length)
   have hml:(moreS s i).rows.length=s.rows.length+i:=by simp [moreS]
   have hmt:(moreS s i).tags.length=s.tags.length:=rfl
   refine jcs ?_;refine jcs ?_;refine jcd (.rd 0 (.rd 1 (.rd 2 (.rd 3 (.rd 4 (.rd 5 (.rd 6 (.rd 7 (.rd 8 (.rd 9 (.rd 10 (.rd 11 .done)))))))))))) ?_;refine jyq jrm ?_;refine jyq jrnc ?_;refine jyq (jrfa 1 1 false) ?_;refine jyo jrdo ?_;refine jyq jrl ?_;refine jyq jrm ?_;refine jyq jrnc ?_;refine jyq (jrfa 0 1 false) ?_;refine jyo jrdo ?_;refine jyq jrl ?_;refine jyq jra ?_;refine jyq jrc ?_;refine jyd ?_;refine jtn ?_;refine jcc (fun h91=>?_) fun h91=>?_
   ·refine jS (jtn ?_)
    refine jB ?_;refine jcg ?_;refine jq jrm ?_;refine jq jrm ?_;refine jq jrnc ?_;refine jq (jrfa 1 1 false) ?_;refine jqo jrdo ?_
    refine jqe (jebl 1 1 zr81 fun p2=>?_)
    refine seq_ent (weakH 3 1 (rowsF [[]]) rfl (Nat.le_refl _) (fun j hj=>by rcases j with _|j <;> first|exact CEnt.nilS _ _|omega)) ?_
    refine jqm (m_appendC rowC_rows (l2:=[[]]) rfl rfl rfl rfl (Nat.le_of_eq (Nat.mul_one _)) (fun _ _=>cZ) (src_os rfl (.inl rfl) (by decide)) rfl (fun j hj=>by rw [Nat.zero_add];exact cZ) Tryz.underlying57 nu57 sz81 zr81 by81 rfl (by simp;omega) (by simp;omega) (fun j hj=>rfl) rfl rfl (Nat.mul_one _) (fun p3=>?_))
    refine jq jrnc ?_;refine jq (jrfa 1 1 false) ?_
    refine jqm (jmstF 1 (rwB (moreS s (i+1)) 2 p3) ?_ ?_)
    ·exact (fun j hj=>by rcases j with _|_|_|j <;> first|exact cZ|exact CEnt.osI (by rw [more_succ])|omega)
    refine jN ?_
    refine jbn (jtn ?_)
    refine jlend ((i+1,p3)) ?_ ?_ (h7:=?_)
    ·(show i+1≤_;omega)
    ·(show _-(i+1)<_-i;omega)
    ·simp only [more_succ];exact HEnt.refl _
   refine jX (jte (jte (jbx (jtn ?_))))
   refine jcs ?_
   have hiE:i=s.tags.length+2-s.rows.length:=by omega
   have hpl:=pad_len (s.tags.length+2) s.rows
   dsimp only
   rw [more_pad s i _ hiE]
   rw [more_pad s i _ hiE] at hml
   have hLl:([]++s.tags++[v.n]).length=s.tags.length+1:=by simp
   refine jcdZ (.rd 0 (.rd 2 (.rd 3 (.rd 4 (.rd 5 (.rd 7 (.rd 8 (.two 1 (.two 6 (.one 9 (.one 10 (.rd 11 (.rd 12 (.one 13 .done))))) 9 (.one 6 (.one 10 (.rd 11 (.rd 12 (.one 13 .done)))))) 9 (.one 1 (.one 6 (.one 10 (.rd 11 (.rd 12 (.one 13 .done)))))))))))))) ?_;refine jzq jrm ?_;refine jzq jrm ?_;refine jzq jrnc ?_;refine jzq (jrfa 0 1 false) ?_;refine jzo jrdo ?_;refine jzq (jrfa 1 1 false) ?_;refine jzq jrdr ?_;refine jztwo ?_ ?_
   ·refine jze (jebl 0 1 zr3 fun p2=>?_)
    refine jztwo ?_ ?_
    ·refine jzm (m_appendC rowC_in (l:=[]) rfl rfl rfl rfl (Nat.zero_le _) (fun j hj=>absurd hj (Nat.not_lt_zero j)) (src_rs rfl) rfl (fun j hj=>by simp only [Nat.div_one];exact cZ) Tryz.underlying51 nu51 sz3 zr3 by3 rfl (by (simp;omega)) (by (simp;omega)) (fun j hj=>rfl) rfl rfl (Nat.mul_one _) (fun p3=>?_))
     refine jze (jebl 1 1 zr3 fun p4=>?_)
     refine jzm (m_appendC rowC_in (l2:=[v.n]) rfl rfl rfl rfl (by exact Nat.le_of_eq (Nat.mul_one _)) (fun _ _=>cZ) (src_os rfl (.inl rfl) (by decide)) rfl (hh_ints (.cons (CEnt.int (rfl)) .nil)) Tryz.underlying51 nu51 sz3 zr3 by3 rfl (by (simp;omega)) (by (simp;omega)) (leaf_flk rfl rfl) rfl rfl (Nat.mul_one _) (fun p5=>?_))
     refine jzq jrnc ?_;refine jzq (jrfa 0 1 false) ?_
     refine jzm (jmst 1 ?_)
     refine jzd ?_;refine jtn ?_
     first
      |(refine jE (freeze 3 rfl) ?_;refine jE (thawC 0 0 3 (rwB ⟨([]++s.tags++[v.n]),padR (s.tags.length+2) s.rows,s.e⟩ 2 g) (fun i _=>inF ([]++s.tags++[v.n]) i) rfl rfl cZ cZ (fun j hj h0=>by rcases j with _|_|_|j <;> first|omega|exact cZ) (by simp) (fun a c ha hc=>by obtain rfl:c=0:=(by omega);rw [Nat.zero_add,Nat.mul_one,Nat.add_zero];exact cZ)) ?_;dsimp only [List.set_cons_zero,List.set_cons_succ,List.cons_append,List.nil_append,List.length_cons,List.length_nil,Nat.zero_add,Nat.reduceAdd])
      |(refine jE (freeze 4 rfl) ?_;refine jE (thawC 0 0 4 (rwB ⟨([]++s.tags++[v.n]),padR (s.tags.length+2) s.rows,s.e⟩ 2 g) (fun i _=>inF ([]++s.tags++[v.n]) i) rfl rfl cZ cZ (fun j hj h0=>by rcases j with _|_|_|j <;> first|omega|exact cZ) (by simp) (fun a c ha hc=>by obtain rfl:c=0:=(by omega);rw [Nat.zero_add,Nat.mul_one,Nat.add_zero];exact cZ)) ?_;dsimp only [List.set_cons_zero,List.set_cons_succ,List.cons_append,List.nil_append,List.length_cons,List.length_nil,Nat.zero_add,Nat.reduceAdd])
     refine jcdB 10 (.rd 0 (.rd 1 (.rd 2 (.rd 3 (.rd 4 (.rd 5 (.rd 6 (.rd 7 (.rd 8 (.rd 9 .done)))))))))) ?_;refine jyq jrm ?_;refine jyq jrnc ?_;refine jyq (jrfa 1 1 false) ?_;refine jyo jrdo ?_;refine jyq jrm ?_;refine jyq jrnc ?_;refine jyq (jrfa 0 1 false) ?_;refine jyo jrdo ?_;refine jyq jrl ?_;refine jyq (jri (i:=([]++s.tags++[v.n]).length) (hz:=by (simp only [List.length_append,List.length_cons,List.length_nil];omega))) ?_;refine jyd ?_
     show ASeq _ _ _ _ _ _
     refine jqm (jmstF 1 (rowsF ((padR (s.tags.length+2) s.rows).set ([]++s.tags++[v.n]).length [])) ?_ ?_)
     ·exact (fun j hj=>rows_set (CEnt.nilS _ _) hj)
     refine jN ?_;refine jbn ?_
     rw [show rdoS v s=⟨([]++s.tags++[v.n]),(padR (s.tags.length+2) s.rows).set (s.tags.length+1) [],s.e⟩ by unfold rdoS;rw [if_neg (by omega),if_pos (by omega)];unfold ropenS;rw [if_neg (by simp [madeM] at h86 ⊢;omega),if_neg (by omega)];rfl]
     exact end_closeRW (.inr rfl) n ⟨([]++s.tags++[v.n]),(padR (s.tags.length+2) s.rows).set (s.tags.length+1) [],s.e⟩ 2 (res_0 rfl) cZ rfl rfl rfl (by exact cZ) (by exact CEnt.osI (by simp)) (by exact cZ) (by simp) (fun _ _=>by rw [hLl];exact cZ)
    ·refine jze (jebl 1 1 zr3 fun p3=>?_)
     refine jzm (m_appendC rowC_in (l:=[]) rfl rfl rfl rfl (Nat.zero_le _) (fun j hj=>absurd hj (Nat.not_lt_zero j)) (src_rs rfl) rfl (fun j hj=>by simp only [Nat.div_one];exact cZ) Tryz.underlying51 nu51 sz3 zr3 by3 rfl (by (simp;omega)) (by (simp;omega)) (fun j hj=>rfl) rfl rfl (Nat.mul_one _) (fun p4=>?_))
     refine jzm (m_appendC rowC_in (l2:=[v.n]) rfl rfl rfl rfl (by exact Nat.le_of_eq (Nat.mul_one _)) (fun _ _=>cZ) (src_os rfl (.inl rfl) (by decide)) rfl (hh_ints (.cons (CEnt.int (rfl)) .nil)) Tryz.underlying51 nu51 sz3 zr3 by3 rfl (by (simp;omega)) (by (simp;omega)) (leaf_flk rfl rfl) rfl rfl (Nat.mul_one _) (fun p5=>?_))
     refine jzq jrnc ?_;refine jzq (jrfa 0 1 false) ?_
     refine jzm (jmst 1 ?_)
     refine jzd ?_;refine jtn ?_
     first
      |(refine jE (freeze 3 rfl) ?_;refine jE (thawC 0 0 3 (rwB ⟨([]++s.tags++[v.n]),padR (s.tags.length+2) s.rows,s.e⟩ 2 g) (fun i _=>inF ([]++s.tags++[v.n]) i) rfl rfl cZ cZ (fun j hj h0=>by rcases j with _|_|_|j <;> first|omega|exact cZ) (by simp) (fun a c ha hc=>by obtain rfl:c=0:=(by omega);rw [Nat.zero_add,Nat.mul_one,Nat.add_zero];exact cZ)) ?_;dsimp only [List.set_cons_zero,List.set_cons_succ,List.cons_append,List.nil_append,List.length_cons,List.length_nil,Nat.zero_add,Nat.reduceAdd])
      |(refine jE (freeze 4 rfl) ?_;refine jE (thawC 0 0 4 (rwB ⟨([]++s.tags++[v.n]),padR (s.tags.length+2) s.rows,s.e⟩ 2 g) (fun i _=>inF ([]++s.tags++[v.n]) i) rfl rfl cZ cZ (fun j hj h0=>by rcases j with _|_|_|j <;> first|omega|exact cZ) (by simp) (fun a c ha hc=>by obtain rfl:c=0:=(by omega);rw [Nat.zero_add,Nat.mul_one,Nat.add_zero];exact cZ)) ?_;dsimp only [List.set_cons_zero,List.set_cons_succ,List.cons_append,List.nil_append,List.length_cons,List.length_nil,Nat.zero_add,Nat.reduceAdd])
     refine jcdB 10 (.rd 0 (.rd 1 (.rd 2 (.rd 3 (.rd 4 (.rd 5 (.rd 6 (.rd 7 (.rd 8 (.rd 9 .done)))))))))) ?_;refine jyq jrm ?_;refine jyq jrnc ?_;refine jyq (jrfa 1 1 false) ?_;refine jyo jrdo ?_;refine jyq jrm ?_;refine jyq jrnc ?_;refine jyq (jrfa 0 1 false) ?_;refine jyo jrdo ?_;refine jyq jrl ?_;refine jyq (jri (i:=([]++s.tags++[v.n]).length) (hz:=by (simp only [List.length_append,List.length_cons,List.length_nil];omega))) ?_;refine jyd ?_
     show ASeq _ _ _ _ _ _
     refine jqm (jmstF 1 (rowsF ((padR (s.tags.length+2) s.rows).set ([]++s.tags++[v.n]).length [])) ?_ ?_)
     ·exact (fun j hj=>rows_set (CEnt.nilS _ _) hj)
     refine jN ?_;refine jbn ?_
     rw [show rdoS v s=⟨([]++s.tags++[v.n]),(padR (s.tags.length+2) s.rows).set (s.tags.length+1) [],s.e⟩ by unfold rdoS;rw [if_neg (by omega),if_pos (by omega)];unfold ropenS;rw [if_neg (by simp [madeM] at h86 ⊢;omega),if_neg (by omega)];rfl]
     exact end_closeRW (.inr rfl) n ⟨([]++s.tags++[v.n]),(padR (s.tags.length+2) s.rows).set (s.tags.length+1) [],s.e⟩ 2 (res_0 rfl) cZ rfl rfl rfl (by exact cZ) (by exact CEnt.osI (by simp)) (by exact cZ) (by simp) (fun _ _=>by rw [hLl];exact cZ)
   ·refine jze (jebl 1 1 zr3 fun p2=>?_)
    refine jze (jebl 0 1 zr3 fun p3=>?_)
    refine jzm (m_appendC rowC_in (l:=[]) rfl rfl rfl rfl (Nat.zero_le _) (fun j hj=>absurd hj (Nat.not_lt_zero j)) (src_rs rfl) rfl (fun j hj=>by simp only [Nat.div_one];exact cZ) Tryz.underlying51 nu51 sz3 zr3 by3 rfl (by (simp;omega)) (by (simp;omega)) (fun j hj=>rfl) rfl rfl (Nat.mul_one _) (fun p4=>?_))
    refine jzm (m_appendC rowC_in (l2:=[v.n]) rfl rfl rfl rfl (by exact Nat.le_of_eq (Nat.mul_one _)) (fun _ _=>cZ) (src_os rfl (.inl rfl) (by decide)) rfl (hh_ints (.cons (CEnt.int (rfl)) .nil)) Tryz.underlying51 nu51 sz3 zr3 by3 rfl (by (simp;omega)) (by (simp;omega)) (leaf_flk rfl rfl) rfl rfl (Nat.mul_one _) (fun p5=>?_))
    refine jzq jrnc ?_;refine jzq (jrfa 0 1 false) ?_
    refine jzm (jmst 1 ?_)
    refine jzd ?_;refine jtn ?_
    first
     |(refine jE (freeze 3 rfl) ?_;refine jE (thawC 0 0 3 (rwB ⟨([]++s.tags++[v.n]),padR (s.tags.length+2) s.rows,s.e⟩ 2 g) (fun i _=>inF ([]++s.tags++[v.n]) i) rfl rfl cZ cZ (fun j hj h0=>by rcases j with _|_|_|j <;> first|omega|exact cZ) (by simp) (fun a c ha hc=>by obtain rfl:c=0:=(by omega);rw [Nat.zero_add,Nat.mul_one,Nat.add_zero];exact cZ)) ?_;dsimp only [List.set_cons_zero,List.set_cons_succ,List.cons_append,List.nil_append,List.length_cons,List.length_nil,Nat.zero_add,Nat.reduceAdd])
     |(refine jE (freeze 4 rfl) ?_;refine jE (thawC 0 0 4 (rwB ⟨([]++s.tags++[v.n]),padR (s.tags.length+2) s.rows,s.e⟩ 2 g) (fun i _=>inF ([]++s.tags++[v.n]) i) rfl rfl cZ cZ (fun j hj h0=>by rcases j with _|_|_|j <;> first|omega|exact cZ) (by simp) (fun a c ha hc=>by obtain rfl:c=0:=(by omega);rw [Nat.zero_add,Nat.mul_one,Nat.add_zero];exact cZ)) ?_;dsimp only [List.set_cons_zero,List.set_cons_succ,List.cons_append,List.nil_append,List.length_cons,List.length_nil,Nat.zero_add,Nat.reduceAdd])
    refine jcdB 10 (.rd 0 (.rd 1 (.rd 2 (.rd 3 (.rd 4 (.rd 5 (.rd 6 (.rd 7 (.rd 8 (.rd 9 .done)))))))))) ?_;refine jyq jrm ?_;refine jyq jrnc ?_;refine jyq (jrfa 1 1 false) ?_;refine jyo jrdo ?_;refine jyq jrm ?_;refine jyq jrnc ?_;refine jyq (jrfa 0 1 false) ?_;refine jyo jrdo ?_;refine jyq jrl ?_;refine jyq (jri (i:=([]++s.tags++[v.n]).length) (hz:=by (simp only [List.length_append,List.length_cons,List.length_nil];omega))) ?_;refine jyd ?_
    show ASeq _ _ _ _ _ _
    refine jqm (jmstF 1 (rowsF ((padR (s.tags.length+2) s.rows).set ([]++s.tags++[v.n]).length [])) ?_ ?_)
    ·exact (fun j hj=>rows_set (CEnt.nilS _ _) hj)
    refine jN ?_;refine jbn ?_
    rw [show rdoS v s=⟨([]++s.tags++[v.n]),(padR (s.tags.length+2) s.rows).set (s.tags.length+1) [],s.e⟩ by unfold rdoS;rw [if_neg (by omega),if_pos (by omega)];unfold ropenS;rw [if_neg (by simp [madeM] at h86 ⊢;omega),if_neg (by omega)];rfl]
    exact end_closeRW (.inr rfl) n ⟨([]++s.tags++[v.n]),(padR (s.tags.length+2) s.rows).set (s.tags.length+1) [],s.e⟩ 2 (res_0 rfl) cZ rfl rfl rfl (by exact cZ) (by exact CEnt.osI (by simp)) (by exact cZ) (by simp) (fun _ _=>by rw [hLl];exact cZ)
 refine jcr ?_;refine jq jrc ?_;refine jq jrm ?_;refine jN ?_;refine jcc (fun h97=>?_) fun h97=>?_
 rotate_left
 ·refine jcr ?_;refine jq jrc ?_;refine jq jrm ?_;refine jN ?_;refine jcc (fun h114=>?_) fun h114=>?_
  ·refine jcr ?_;refine jq (jrfa 3 1 false) ?_;refine jq jrdr ?_
   refine jqe (jecP (rcheck_ac v.b hvb) ?_)
   refine jq jrm ?_;refine jq jrx ?_;refine jq jrx ?_;refine jq jrm ?_;refine jq jrm ?_;refine jN ?_;refine jcs ?_;refine jcr ?_;refine jq jrm ?_;refine jq jrc ?_;refine jN ?_;refine jcc (fun h116=>?_) fun h116=>?_
   ·refine jcr ?_;refine jq jrm ?_;refine jq jrm ?_;refine jq jrnc ?_;refine jq (jrfa 2 1 false) ?_
    refine jqm (jmstF 1 (rwB ⟨s.tags,s.rows,(depthM v.b).2⟩ 2 gr) ?_ ?_)
    ·exact (fun j hj=>by rcases j with _|_|_|j <;> exact cZ)
    refine jN ?_
    refine jR (jtr (jbr ?_))
    rw [show rdoS v s=⟨s.tags,s.rows,(depthM v.b).2⟩ by unfold rdoS;rw [if_neg (by omega),if_neg (by omega),if_neg (by omega),if_pos (by omega),if_pos (by omega)]]
    exact end_closeRW (.inl rfl) n ⟨s.tags,s.rows,(depthM v.b).2⟩ 2 (res_0 rfl) cZ rfl rfl rfl (by exact cZ) (by exact CEnt.osI rfl) (by exact cZ) (Nat.le_refl _) (fun _ _=>by exact cZ)
   refine jS (jtn ?_)
   refine jcg ?_;refine jq jrm ?_
   refine jqe (jebl 0 1 zr5 fun p2=>?_)
   refine jq (jrfa 3 1 false) ?_;refine jq jrdr ?_
   first|refine jqm (m_appendB (l:=[]) rfl rfl rfl (Nat.zero_le _) (fun j hj=>absurd hj (Nat.not_lt_zero j)) (src_rs rfl) rfl (fun j hj=>by simp only [Nat.div_one];exact cZ) Tryz.underlying22 nu22 sz5 zr5 by5 rfl (by (simp;omega)) (fun j hj=>rfl) rfl rfl (fun p3=>?_))|refine jqm (m_appendB (l:=[]) rfl rfl rfl (Nat.zero_le _) (fun j hj=>absurd hj (Nat.not_lt_zero j)) (src_str rfl) rfl (fun j hj=>cZ) Tryz.underlying22 nu22 sz5 zr5 by5 rfl (by first|omega|(simp;done)|(simp;omega)|(simp at *;omega)) (fun j hj=>rfl) rfl rfl (fun p3=>?_))|refine jqm (m_appendB (l:=[]) rfl rfl rfl (Nat.zero_le _) (fun j hj=>absurd hj (Nat.not_lt_zero j)) (src_os rfl (.inl rfl) (by omega)) rfl (fun j hj=>by rw [Nat.zero_add];exact cZ) Tryz.underlying22 nu22 sz5 zr5 by5 rfl (by first|omega|(simp;done)|(simp;omega)|(simp at *;omega)) (fun j hj=>rfl) rfl rfl (fun p3=>?_))
   refine seq_ent (freeze 3 rfl) ?_;refine seq_ent (thawB 181 ([]++v.b) rfl rfl rfl rfl) ?_;refine seq_ent (closeRW n s 0 2 rfl rfl rfl cZ (CEnt.osI rfl) cZ (Nat.le_refl _) (fun _ _=>cZ)) ?_
   refine jqm (jmcH 0 (radd08_ac n s ([]++v.b) hs.ok) ?_)
   rintro _ _ ⟨rfl,rfl⟩
   refine ⟨_,_,rfl,cZ,?_⟩
   refine jN ?_;refine jbn ?_
   rw [show rdoS v s=raddS ([]++v.b) s by unfold rdoS;rw [if_neg (by omega),if_neg (by omega),if_neg (by omega),if_pos (by omega),if_neg (by omega)];rfl]
   exact end_own (.inr rfl) _ [_] [0] (by decide) rfl (res_0 rfl) ⟨rfl,rfl⟩
  refine jcr ?_;refine jq (jrdrA 5) ?_
  refine jqe (jecS (hB (by omega) (by omega) (by omega)) ?_)
  rintro _ _ ⟨⟨bb,rfl,hbb⟩,rfl⟩
  refine jq jrm ?_;refine jq jrx ?_;refine jq jrx ?_;refine jq jrx ?_;refine jq jrm ?_;refine jq jrm ?_;refine jq jrm ?_;refine jN ?_;refine jcs ?_;refine jcr ?_;refine jq jrm ?_;refine jq jrc ?_;refine jN ?_;refine jcc (fun h123=>?_) fun h123=>?_
  ·refine jcr ?_;refine jq jrm ?_;refine jq jrm ?_;refine jq jrnc ?_;refine jq (jrfa 2 1 false) ?_
   refine jqm (jmstF 1 (rwB ⟨s.tags,s.rows,(bodyV v).2.2⟩ 2 gr) ?_ ?_)
   ·exact (fun j hj=>by rcases j with _|_|_|j <;> exact cZ)
   refine jN ?_
   refine jR (jtr (jbr ?_))
   rw [show rdoS v s=⟨s.tags,s.rows,(bodyV v).2.2⟩ by unfold rdoS;rw [if_neg (by omega),if_neg (by omega),if_neg (by omega),if_neg (by omega),if_pos (by omega)]]
   exact end_closeRW (.inl rfl) n ⟨s.tags,s.rows,(bodyV v).2.2⟩ 2 (res_0 rfl) cZ rfl rfl rfl (by exact cZ) (by exact CEnt.osI rfl) (by exact cZ) (Nat.le_refl _) (fun _ _=>by exact cZ)
  refine jS (jtn ?_)
  have hb0:bb=(bodyV v).2.1:=hbb (by omega)
  subst hb0
  refine jE (closeRW n s 0 2 rfl rfl rfl cZ (CEnt.osI rfl) cZ (Nat.le_refl _) (fun _ _=>cZ)) ?_
  dsimp only [List.set_cons_zero,List.set_cons_succ,List.cons_append,List.nil_append,List.length_cons,List.length_nil,Nat.zero_add,Nat.reduceAdd]
  refine jcg ?_;refine jq jrm ?_;refine jq jrm ?_;refine jq jrm ?_
  refine jqm (jmcH 0 (rput08_ac n s (bodyV v).1 (bodyV v).2.1 hs.ok (body_tag v) (bodyV_len hv)) ?_)
  rintro _ _ ⟨rfl,rfl⟩
  refine ⟨_,_,rfl,cZ,?_⟩
  refine jN ?_;refine jbn ?_
  rw [show rdoS v s=rputS (bodyV v).1 (bodyV v).2.1 s by unfold rdoS;rw [if_neg (by omega),if_neg (by omega),if_neg (by omega),if_neg (by omega),if_neg (by omega)]]
  exact end_own (.inr rfl) _ [_] [0] (by decide) rfl (res_0 rfl) ⟨rfl,rfl⟩
 refine jcr ?_;refine jq jrm ?_;refine jq jrnc ?_;refine jq (jrfa 0 1 false) ?_;refine jqo jrdo ?_;refine jq jrl ?_;refine jq jrm ?_;refine jN ?_;refine jcs ?_;refine jcr ?_;refine jq jrm ?_;refine jq jrc ?_;refine jN ?_;refine jcc (fun h99=>?_) fun h99=>?_
 ·refine jcr ?_;refine jq jrm ?_;refine jq jrnc ?_;refine jq (jrfa 2 1 false) ?_
  refine jqm (jmstF 1 (rwB ⟨s.tags,s.rows,24⟩ 2 gr) ?_ ?_)
  ·exact (fun j hj=>by rcases j with _|_|_|j <;> exact cZ)
  refine jN ?_
  refine jR (jtr (jbr ?_))
  rw [show rdoS v s=⟨s.tags,s.rows,24⟩ by unfold rdoS;rw [if_neg (by omega),if_neg (by omega),if_pos (by omega)];unfold rcloseS;rw [if_pos (by omega)]]
  exact end_closeRW (.inl rfl) n ⟨s.tags,s.rows,24⟩ 2 (res_0 rfl) cZ rfl rfl rfl (by exact cZ) (by exact CEnt.osI rfl) (by exact cZ) (Nat.le_refl _) (fun _ _=>by exact cZ)
 refine jS (jtn ?_)
 have hlt:=hs.lt (by omega)
 have hmem:(s.tags.getD (s.tags.length-1) 0) ∈ s.tags:=getD_mem' 0 (by omega)
 have htg:=hs.tag _ hmem
 have hll:=lsF_len (s.tags.getD (s.tags.length-1) 0) (s.rows.getD s.tags.length [])
 refine jcr ?_;refine jq jrm ?_;refine jq jrnc ?_;refine jq (jrfa 1 1 false) ?_;refine jqo jrdo ?_;refine jq jrm ?_;refine jq jri ?_;refine jqo jrdo ?_;refine jq jrm ?_;refine jN ?_;refine jcs ?_;refine jcr ?_;refine jq jrm ?_;refine jq jrnc ?_;refine jq (jrfa 0 1 false) ?_;refine jqo jrdo ?_;refine jq jrm ?_;refine jq jra ?_;refine jq (jri (i:=(s.tags.length-1)) (hz:=by omega)) ?_;refine jq jrdr ?_;refine jq jrc ?_;refine jN ?_;refine jcc (fun h104=>?_) fun h104=>?_
 rotate_left
 ·refine jS (jtn ?_)
  first
   | refine jE (weaken 5 (lbC (lsF (s.tags.getD (s.tags.length-1) 0) (s.rows.getD s.tags.length []))) (by unfold lsF;rw [if_pos h104];exact cZ)) ?_
   | refine jE (weaken 5 (lbC (lsF (s.tags.getD (s.tags.length-1) 0) (s.rows.getD s.tags.length []))) (by unfold lsF;rw [if_neg h104];exact cZ)) ?_
  refine jcr ?_
  refine jqe (jebl 0 1 zr5 fun p2=>?_)
  refine jq jrm ?_;refine jN ?_;refine jcs ?_;refine jcr ?_;refine jq jrm ?_;refine jq jrl ?_;refine jq jrm ?_;refine jN ?_;refine jB ?_;refine l_loop (α:=Nat×Option Nat) [6,8,133,134,135,136,137,138,139,140] (fun (i,g)=>[(6,.os 3 g 0 (((lsF (s.tags.getD (s.tags.length-1) 0) (s.rows.getD s.tags.length [])).take i).flatten).length 1),(133,.c (.int .i64 (i:Nat)))]) (fun (i,g)=>[(some n,.blk 3 (rwB s 2 gr)),(p1,.frz 5 (fl [.c (.int .i64 v.kind),.c (.int .i64 v.n),.c (.bool v.is),bsC v.b,strC v.t])),(gr,.blk s.rows.length (rowsF s.rows)),(g,.blk (((lsF (s.tags.getD (s.tags.length-1) 0) (s.rows.getD s.tags.length [])).take i).flatten).length (byF ((lsF (s.tags.getD (s.tags.length-1) 0) (s.rows.getD s.tags.length [])).take i).flatten))]) (fun i=>i.1≤(lsF (s.tags.getD (s.tags.length-1) 0) (s.rows.getD s.tags.length [])).length) (fun i=>(lsF (s.tags.getD (s.tags.length-1) 0) (s.rows.getD s.tags.length [])).length-i.1) ((0,p2)) ?_ (fun _=>rfl) ?_ ?_ ?_
  ·exact Nat.zero_le _
  ·exact .cons (CEnt.osI rfl) (.cons cZ .nil)
  ·exact .same (.same (.same (.blk rfl (fun j hj=>absurd hj (Nat.not_lt_zero j)) .nil)))
  ·rintro ⟨i,g⟩ (hi:i≤(lsF (s.tags.getD (s.tags.length-1) 0) (s.rows.getD s.tags.length [])).length)
   refine jcr ?_;refine jq jrc ?_;refine jN ?_;refine jcs ?_;refine jcc (fun h108=>?_) fun h108=>?_
   ·refine jS (jtn ?_)
    refine jcs ?_;refine jB ?_;refine jcr ?_;refine jq jri ?_;refine jq jrdr ?_;refine jq jrm ?_;refine jN ?_
    have hf1:=sumL_take (ls:=(lsF (s.tags.getD (s.tags.length-1) 0) (s.rows.getD s.tags.length []))) (i:=i) (by omega)
    have hf2:=sumL_le (lsF (s.tags.getD (s.tags.length-1) 0) (s.rows.getD s.tags.length [])) (i+1)
    have hf3:=flat_len ((lsF (s.tags.getD (s.tags.length-1) 0) (s.rows.getD s.tags.length [])).take i)
    refine jcg ?_;refine jq jrm ?_;refine jq jrm ?_
    first|refine jqm (m_appendB rfl rfl rfl (Nat.le_refl _) (fun _ _=>cZ) (src_rs rfl) rfl (fun j hj=>by simp only [Nat.div_one];exact cZ) Tryz.underlying22 nu22 sz5 zr5 by5 rfl (by omega) (fun j hj=>rfl) rfl rfl (fun p3=>?_))|refine jqm (m_appendB rfl rfl rfl (Nat.le_refl _) (fun _ _=>cZ) (src_str rfl) rfl (fun j hj=>cZ) Tryz.underlying22 nu22 sz5 zr5 by5 rfl (by first|omega|(simp;done)|(simp;omega)|(simp at *;omega)) (fun j hj=>rfl) rfl rfl (fun p3=>?_))|refine jqm (m_appendB rfl rfl rfl (Nat.le_refl _) (fun _ _=>cZ) (src_os rfl (.inl rfl) (by omega)) rfl (fun j hj=>by rw [Nat.zero_add];exact cZ) Tryz.underlying22 nu22 sz5 zr5 by5 rfl (by first|omega|(simp;done)|(simp;omega)|(simp at *;omega)) (fun j hj=>rfl) rfl rfl (fun p3=>?_))
    refine jq jrm ?_;refine jN ?_
    refine jbn (jtn ?_)
    refine jcg ?_;refine jq jra ?_;refine jq jrm ?_;refine jN ?_;refine jtn ?_
    refine jlend ((i+1,p3)) ?_ ?_ (h5:=?_) (h7:=?_)
    ·show i+1≤(lsF (s.tags.getD (s.tags.length-1) 0) (s.rows.getD s.tags.length [])).length;omega
    ·show (lsF (s.tags.getD (s.tags.length-1) 0) (s.rows.getD s.tags.length [])).length-(i+1)<(lsF (s.tags.getD (s.tags.length-1) 0) (s.rows.getD s.tags.length [])).length-i;omega
    ·simp only [flat_take (show i<(lsF (s.tags.getD (s.tags.length-1) 0) (s.rows.getD s.tags.length [])).length by omega)]
     exact .cons (CEnt.osI rfl) (.cons (CEnt.int (by omega)) .nil)
    ·simp only [flat_take (show i<(lsF (s.tags.getD (s.tags.length-1) 0) (s.rows.getD s.tags.length [])).length by omega)]
     exact .same (.same (.same (.same .nil)))
   refine jX (jte (jte (jbx (jtn ?_))))
   have hiE:i=(lsF (s.tags.getD (s.tags.length-1) 0) (s.rows.getD s.tags.length [])).length:=by omega
   subst hiE
   dsimp only
   rw [List.take_length]
   refine jcr ?_;refine jq jrm ?_;refine jq jrnc ?_;refine jq (jrfa 0 1 false) ?_;refine jqo jrdo ?_;refine jq jrm ?_;refine jq jra ?_;refine jq (jri (i:=(s.tags.length-1)) (hz:=by omega)) ?_;refine jq jrdr ?_;refine jq jrm ?_;refine jN ?_;refine jcr ?_;refine jq jrm ?_;refine jq jrm ?_;refine jq jrnc ?_;refine jq (jrfa 0 1 false) ?_;refine jqo jrdo ?_;refine jq jrm ?_;refine jq jra ?_;refine jq (jrsr (hl:=(bd_none _ _)) (hu:=(bd_some rfl (show _=(((s.tags.length-1):Nat):Int) by omega)))) ?_;refine jq jrnc ?_;refine jq (jrfa 0 1 false) ?_
   refine jqm (jmstF 1 (rwB ⟨s.tags.take (s.tags.length-1),s.rows,s.e⟩ 2 gr) ?_ ?_)
   ·exact (fun j hj=>by rcases j with _|_|_|j <;> first|exact CEnt.rs (by rw [List.length_take];omega) (fun i q hi hq=>CEnt.of_eq (by rw [Nat.zero_add];exact in_take hi))|exact cZ|omega)
   refine jN ?_;refine jE (freeze 3 rfl) ?_;refine jE (thawB 6 ((lsF (s.tags.getD (s.tags.length-1) 0) (s.rows.getD s.tags.length [])).flatten) rfl rfl rfl rfl) ?_;refine jE (closeRW n ⟨s.tags.take (s.tags.length-1),s.rows,s.e⟩ 0 2 rfl rfl rfl cZ (CEnt.osI rfl) cZ (Nat.le_refl _) (fun _ _=>cZ)) ?_
   dsimp only [List.set_cons_zero,List.set_cons_succ,List.cons_append,List.nil_append,List.length_cons,List.length_nil,Nat.zero_add,Nat.reduceAdd]
   refine jcg ?_;refine jq jrm ?_;refine jq jrm ?_;refine jq jrm ?_
   refine jqm (jmcH 0 (rput08_ac n ⟨s.tags.take (s.tags.length-1),s.rows,s.e⟩ (s.tags.getD (s.tags.length-1) 0) ((lsF (s.tags.getD (s.tags.length-1) 0) (s.rows.getD s.tags.length [])).flatten) (okRD_tail hs) htg (by rw [flat_len];omega)) ?_)
   rintro _ _ ⟨rfl,rfl⟩
   refine ⟨_,_,rfl,cZ,?_⟩
   refine jN ?_;refine jbn ?_
   rw [show rdoS v s=rputS (s.tags.getD (s.tags.length-1) 0) ((lsF (s.tags.getD (s.tags.length-1) 0) (s.rows.getD s.tags.length [])).flatten) ⟨s.tags.take (s.tags.length-1),s.rows,s.e⟩ by unfold rdoS;rw [if_neg (by omega),if_neg (by omega),if_pos (by omega)];unfold rcloseS;rw [if_neg (by omega),lsF_body]]
   exact end_own (.inr rfl) _ [_] [0] (by decide) rfl (res_0 rfl) ⟨rfl,rfl⟩
 refine jcg ?_;refine jq jrm ?_
 refine jqe (jecP (rsorted07_ac (s.rows.getD s.tags.length []) hkk) ?_)
 refine jq jrm ?_;refine jN ?_;refine jtn ?_
 first
  | refine jE (weaken 5 (lbC (lsF (s.tags.getD (s.tags.length-1) 0) (s.rows.getD s.tags.length []))) (by unfold lsF;rw [if_pos h104];exact cZ)) ?_
  | refine jE (weaken 5 (lbC (lsF (s.tags.getD (s.tags.length-1) 0) (s.rows.getD s.tags.length []))) (by unfold lsF;rw [if_neg h104];exact cZ)) ?_
 refine jcr ?_
 refine jqe (jebl 0 1 zr5 fun p2=>?_)
 refine jq jrm ?_;refine jN ?_;refine jcs ?_;refine jcr ?_;refine jq jrm ?_;refine jq jrl ?_;refine jq jrm ?_;refine jN ?_;refine jB ?_;refine l_loop (α:=Nat×Option Nat) [6,8,133,134,135,136,137,138,139,140] (fun (i,g)=>[(6,.os 3 g 0 (((lsF (s.tags.getD (s.tags.length-1) 0) (s.rows.getD s.tags.length [])).take i).flatten).length 1),(133,.c (.int .i64 (i:Nat)))]) (fun (i,g)=>[(some n,.blk 3 (rwB s 2 gr)),(p1,.frz 5 (fl [.c (.int .i64 v.kind),.c (.int .i64 v.n),.c (.bool v.is),bsC v.b,strC v.t])),(gr,.blk s.rows.length (rowsF s.rows)),(g,.blk (((lsF (s.tags.getD (s.tags.length-1) 0) (s.rows.getD s.tags.length [])).take i).flatten).length (byF ((lsF (s.tags.getD (s.tags.length-1) 0) (s.rows.getD s.tags.length [])).take i).flatten))]) (fun i=>i.1≤(lsF (s.tags.getD (s.tags.length-1) 0) (s.rows.getD s.tags.length [])).length) (fun i=>(lsF (s.tags.getD (s.tags.length-1) 0) (s.rows.getD s.tags.length [])).length-i.1) ((0,p2)) ?_ (fun _=>rfl) ?_ ?_ ?_
 ·exact Nat.zero_le _
 ·exact .cons (CEnt.osI rfl) (.cons cZ .nil)
 ·exact .same (.same (.same (.blk rfl (fun j hj=>absurd hj (Nat.not_lt_zero j)) .nil)))
 ·rintro ⟨i,g⟩ (hi:i≤(lsF (s.tags.getD (s.tags.length-1) 0) (s.rows.getD s.tags.length [])).length)
  refine jcr ?_;refine jq jrc ?_;refine jN ?_;refine jcs ?_;refine jcc (fun h108=>?_) fun h108=>?_
  ·refine jS (jtn ?_)
   refine jcs ?_;refine jB ?_;refine jcr ?_;refine jq jri ?_;refine jq jrdr ?_;refine jq jrm ?_;refine jN ?_
   have hf1:=sumL_take (ls:=(lsF (s.tags.getD (s.tags.length-1) 0) (s.rows.getD s.tags.length []))) (i:=i) (by omega)
   have hf2:=sumL_le (lsF (s.tags.getD (s.tags.length-1) 0) (s.rows.getD s.tags.length [])) (i+1)
   have hf3:=flat_len ((lsF (s.tags.getD (s.tags.length-1) 0) (s.rows.getD s.tags.length [])).take i)
   refine jcg ?_;refine jq jrm ?_;refine jq jrm ?_
   first|refine jqm (m_appendB rfl rfl rfl (Nat.le_refl _) (fun _ _=>cZ) (src_rs rfl) rfl (fun j hj=>by simp only [Nat.div_one];exact cZ) Tryz.underlying22 nu22 sz5 zr5 by5 rfl (by omega) (fun j hj=>rfl) rfl rfl (fun p3=>?_))|refine jqm (m_appendB rfl rfl rfl (Nat.le_refl _) (fun _ _=>cZ) (src_str rfl) rfl (fun j hj=>cZ) Tryz.underlying22 nu22 sz5 zr5 by5 rfl (by first|omega|(simp;done)|(simp;omega)|(simp at *;omega)) (fun j hj=>rfl) rfl rfl (fun p3=>?_))|refine jqm (m_appendB rfl rfl rfl (Nat.le_refl _) (fun _ _=>cZ) (src_os rfl (.inl rfl) (by omega)) rfl (fun j hj=>by rw [Nat.zero_add];exact cZ) Tryz.underlying22 nu22 sz5 zr5 by5 rfl (by first|omega|(simp;done)|(simp;omega)|(simp at *;omega)) (fun j hj=>rfl) rfl rfl (fun p3=>?_))
   refine jq jrm ?_;refine jN ?_
   refine jbn (jtn ?_)
   refine jcg ?_;refine jq jra ?_;refine jq jrm ?_;refine jN ?_;refine jtn ?_
   refine jlend ((i+1,p3)) ?_ ?_ (h5:=?_) (h7:=?_)
   ·show i+1≤(lsF (s.tags.getD (s.tags.length-1) 0) (s.rows.getD s.tags.length [])).length;omega
   ·show (lsF (s.tags.getD (s.tags.length-1) 0) (s.rows.getD s.tags.length [])).length-(i+1)<(lsF (s.tags.getD (s.tags.length-1) 0) (s.rows.getD s.tags.length [])).length-i;omega
   ·simp only [flat_take (show i<(lsF (s.tags.getD (s.tags.length-1) 0) (s.rows.getD s.tags.length [])).length by omega)]
    exact .cons (CEnt.osI rfl) (.cons (CEnt.int (by omega)) .nil)
   ·simp only [flat_take (show i<(lsF (s.tags.getD (s.tags.length-1) 0) (s.rows.getD s.tags.length [])).length by omega)]
    exact .same (.same (.same (.same .nil)))
  refine jX (jte (jte (jbx (jtn ?_))))
  have hiE:i=(lsF (s.tags.getD (s.tags.length-1) 0) (s.rows.getD s.tags.length [])).length:=by omega
  subst hiE
  dsimp only
  rw [List.take_length]
  refine jcr ?_;refine jq jrm ?_;refine jq jrnc ?_;refine jq (jrfa 0 1 false) ?_;refine jqo jrdo ?_;refine jq jrm ?_;refine jq jra ?_;refine jq (jri (i:=(s.tags.length-1)) (hz:=by omega)) ?_;refine jq jrdr ?_;refine jq jrm ?_;refine jN ?_;refine jcr ?_;refine jq jrm ?_;refine jq jrm ?_;refine jq jrnc ?_;refine jq (jrfa 0 1 false) ?_;refine jqo jrdo ?_;refine jq jrm ?_;refine jq jra ?_;refine jq (jrsr (hl:=(bd_none _ _)) (hu:=(bd_some rfl (show _=(((s.tags.length-1):Nat):Int) by omega)))) ?_;refine jq jrnc ?_;refine jq (jrfa 0 1 false) ?_
  refine jqm (jmstF 1 (rwB ⟨s.tags.take (s.tags.length-1),s.rows,s.e⟩ 2 gr) ?_ ?_)
  ·exact (fun j hj=>by rcases j with _|_|_|j <;> first|exact CEnt.rs (by rw [List.length_take];omega) (fun i q hi hq=>CEnt.of_eq (by rw [Nat.zero_add];exact in_take hi))|exact cZ|omega)
  refine jN ?_;refine jE (freeze 3 rfl) ?_;refine jE (thawB 6 ((lsF (s.tags.getD (s.tags.length-1) 0) (s.rows.getD s.tags.length [])).flatten) rfl rfl rfl rfl) ?_;refine jE (closeRW n ⟨s.tags.take (s.tags.length-1),s.rows,s.e⟩ 0 2 rfl rfl rfl cZ (CEnt.osI rfl) cZ (Nat.le_refl _) (fun _ _=>cZ)) ?_
  dsimp only [List.set_cons_zero,List.set_cons_succ,List.cons_append,List.nil_append,List.length_cons,List.length_nil,Nat.zero_add,Nat.reduceAdd]
  refine jcg ?_;refine jq jrm ?_;refine jq jrm ?_;refine jq jrm ?_
  refine jqm (jmcH 0 (rput08_ac n ⟨s.tags.take (s.tags.length-1),s.rows,s.e⟩ (s.tags.getD (s.tags.length-1) 0) ((lsF (s.tags.getD (s.tags.length-1) 0) (s.rows.getD s.tags.length [])).flatten) (okRD_tail hs) htg (by rw [flat_len];omega)) ?_)
  rintro _ _ ⟨rfl,rfl⟩
  refine ⟨_,_,rfl,cZ,?_⟩
  refine jN ?_;refine jbn ?_
  rw [show rdoS v s=rputS (s.tags.getD (s.tags.length-1) 0) ((lsF (s.tags.getD (s.tags.length-1) 0) (s.rows.getD s.tags.length [])).flatten) ⟨s.tags.take (s.tags.length-1),s.rows,s.e⟩ by unfold rdoS;rw [if_neg (by omega),if_neg (by omega),if_pos (by omega)];unfold rcloseS;rw [if_neg (by omega),lsF_body]]
  exact end_own (.inr rfl) _ [_] [0] (by decide) rfl (res_0 rfl) ⟨rfl,rfl⟩
end
section
open Go.RowKit Cal
structure SmallV (v:VV):Prop where
 n:-9223372036854775808≤v.n∧v.n≤9223372036854775807
 b:v.b.length≤300
 t:v.t.length≤300
theorem SmallV.ok {v:VV} (h:SmallV v):OkV v:=⟨h.n,by have:=h.b;omega,by have:=h.t;omega⟩
def frW (fr:List (Int×List (List UInt8))):Nat:=(fr.map fun x=>sumL x.2+6).sum
def wtW (s:W8):Nat:=s.d.length+frW s.fr
theorem frW_cons (x:Int×List (List UInt8)) (fr:List (Int×List (List UInt8))):frW (x::fr)=sumL x.2+6+frW fr:=by simp [frW]
theorem sumL_snoc (l:List (List UInt8)) (b:List UInt8):sumL (l++[b])=sumL l+b.length:=by rw [sumL_app];simp [sumL]
theorem putL_len (tag:Int) (b:List UInt8):(putL tag b).length≤b.length+6:=by
 unfold putL
 have:=lenL_bd b.length
 simp only [List.length_cons,List.length_append]
 omega
theorem wt_add (b:List UInt8) (s:W8):wtW (addW b s)=wtW s+b.length:=by
 obtain ⟨fr,d,k⟩:=s
 cases fr with
 | nil=>simp [wtW,addW,frW]
 | cons x fr =>
  show d.length+frW ((x.1,x.2++[b])::fr)=d.length+frW (x::fr)+_
  rw [frW_cons,frW_cons]
  show d.length+(sumL (x.2++[b])+6+frW fr)=_
  rw [sumL_snoc]
  omega
theorem wt_fail (e:Nat) (s:W8):wtW (failW e s)=wtW s:=by unfold failW;split <;> rfl
theorem wt_put (tag:Int) (b:List UInt8) (e:Nat) (s:W8):wtW (putW tag b e s)≤wtW s+b.length+6:=by
 unfold putW
 split
 ·rw [wt_fail];omega
 ·split
  ·show s.d.length+frW s.fr≤_;unfold wtW;omega
  ·rw [wt_add];have:=putL_len tag b;omega
theorem bodyV_small {v:VV} (h:SmallV v):(bodyV v).2.1.length≤300:=by
 have h1:=h.b
 have h2:=h.t
 have h3:=(putN_len v.n h.n.1 h.n.2).2
 have h4:=put_len v.t
 unfold bodyV
 split
 ·show (putN v.n).length≤_;omega
 ·split
  ·show (putN v.n).length≤_;omega
  ·split
   ·show [if v.is then (255:UInt8) else 0].length≤_;simp
   ·split
    ·exact h1
    ·split
     ·show (if askedM v.t v.n=0 then v.t else []).length≤_;split <;> first|omega|simp
     ·split
      ·show (putM v.t).length≤_;omega
      ·split
       ·show (if inT v.n then bodyL (ofM v.n) else []).length≤_
        split
        ·exact Nat.le_trans (Nat.le_of_eq (show (bodyL (ofM v.n)).length=15 from rfl)) (by decide)
        ·simp
       ·show (bitsL v.n).length≤_
        unfold bitsL
        split
        ·simp
        ·rw [flags_len (by omega)]
         have:=(bl_is (m:=v.n.toNat) (by omega)).2
         omega
theorem wt_do {v:VV} (h:SmallV v) (s:W8):wtW (doW v s)≤wtW s+400:=by
 have hb:=h.b
 unfold doW
 split
 ·unfold openW
  split
  ·omega
  ·split
   ·show s.d.length+frW s.fr≤_;unfold wtW;omega
   ·split
    ·show s.d.length+frW s.fr≤_;unfold wtW;omega
    ·show s.d.length+frW _≤_
     rw [frW_cons]
     unfold wtW
     simp [sumL];omega
 ·split
  ·unfold closeV
   split
   ·omega
   ·obtain ⟨fr,d,k⟩:=s
    cases fr with
    | nil=>show d.length+frW []≤d.length+frW []+_;omega
    | cons x fr =>
     have h1:=wt_put x.1 (bodyF x) 0 ⟨fr,d,k⟩
     rw [bodyF_len] at h1
     refine Nat.le_trans h1 ?_
     show d.length+frW fr+_+_≤d.length+frW (x::fr)+_
     rw [frW_cons]
     omega
  ·split
   ·unfold rawW
    split
    ·rw [wt_add];omega
    ·rw [wt_fail];omega
   ·have h1:=wt_put (bodyV v).1 (bodyV v).2.1 (bodyV v).2.2 s
    have h2:=bodyV_small h
    omega
theorem pad_mem {m:Nat} {r:List (List (List UInt8))} {x:List (List UInt8)} (h:x ∈ padR m r):x ∈ r∨x=[]:=by
 unfold padR at h
 rcases List.mem_append.1 h with h|h
 ·exact .inl h
 ·exact .inr (List.eq_of_mem_replicate h)
theorem at_mem (r:List (List (List UInt8))) (j:Nat):r.getD j [] ∈ r∨r.getD j []=[]:=by
 rw [List.getD_eq_getElem?_getD]
 cases e:r[j]? with
 | none=>exact .inr rfl
 | some x=>exact .inl (List.mem_of_getElem? e)
def Grown (r r':R8):Prop:=(r'.rows.length≤max r.rows.length (r'.tags.length+1))∧∀ x ∈ r'.rows,x ∈ r.rows∨x=[]∨∃ y b,(y ∈ r.rows∨y=[])∧x=y++[b]∧x=r'.rows.getD r'.tags.length []
theorem grown_rows {r r':R8} (h:r'.rows=r.rows):Grown r r':=⟨by rw [h];omega,fun x hx=>.inl (h ▸ hx)⟩
theorem grown_add (b:List UInt8) (r:R8):Grown r (raddS b r):=by
 have hp:r.tags.length<(padR (r.tags.length+1) r.rows).length:=by rw [pad_len];omega
 refine ⟨?_,fun x hx=>?_⟩
 ·show (List.set _ _ _).length≤max _ (r.tags.length+1)
  rw [List.length_set,pad_len]
  omega
 ·rcases List.mem_or_eq_of_mem_set hx with h|h
  ·rcases pad_mem h with h|h
   ·exact .inl h
   ·exact .inr (.inl h)
  ·refine .inr (.inr ⟨_,b,?_,h,?_⟩)
   ·rw [pad_get];exact at_mem _ _
   ·show x=List.getD (List.set _ _ _) r.tags.length []
    rw [set_get _ _ _ _ hp,if_pos rfl]
    exact h
theorem grown_put (t:Int) (b:List UInt8) (r:R8):Grown r (rputS t b r):=by
 unfold rputS
 split
 ·exact grown_rows rfl
 ·exact grown_add _ r
theorem grown_do (v:VV) (r:R8):Grown r (rdoS v r):=by
 unfold rdoS
 split
 ·exact grown_rows rfl
 ·split
  ·unfold ropenS
   split
   ·exact grown_rows rfl
   ·split
    ·exact grown_rows rfl
    ·refine ⟨?_,fun x hx=>?_⟩
     ·show (List.set _ _ _).length≤max _ ((r.tags++[v.n]).length+1)
      rw [List.length_set,pad_len,List.length_append,List.length_singleton]
      omega
     ·rcases List.mem_or_eq_of_mem_set hx with h|h
      ·rcases pad_mem h with h|h
       ·exact .inl h
       ·exact .inr (.inl h)
      ·exact .inr (.inl h)
  ·split
   ·unfold rcloseS
    split
    ·exact grown_rows rfl
    ·exact grown_put _ _ ⟨_,r.rows,r.e⟩
   ·split
    ·split
     ·exact grown_rows rfl
     ·exact grown_add _ r
    ·split
     ·exact grown_rows rfl
     ·exact grown_put _ _ r
theorem frW_mem {fr:List (Int×List (List UInt8))} {x:Int×List (List UInt8)} (h:x ∈ fr):sumL x.2≤frW fr:=by
 induction fr with
 | nil=>cases h
 | cons y fr ih =>
  rw [frW_cons]
  rcases List.mem_cons.1 h with rfl|h
  ·omega
  ·have:=ih h;omega
theorem active_sum {r:R8} {s:W8} (h:Same8 r s):sumL (r.rows.getD r.tags.length [])≤wtW s:=by
 have hl:r.tags.length=s.fr.length:=by rw [h.tags];simp
 obtain ⟨fr,d,k⟩:=s
 cases fr with
 | nil =>
  rw [hl]
  show sumL (r.rows.getD 0 [])≤_
  rw [← flat_len,h.row0]
  unfold wtW
  omega
 | cons x fr =>
  have hr:=h.row fr.length (by simp)
  rw [hl]
  show sumL (r.rows.getD (fr.length+1) [])≤_
  rw [hr]
  have e:((x::fr).map Prod.snd).reverse.getD fr.length []=x.2:=by simp [List.getD_eq_getElem?_getD]
  show sumL (((x::fr).map Prod.snd).reverse.getD fr.length [])≤_
  rw [e]
  have:=frW_mem (fr:=x::fr) (x:=x) List.mem_cons_self
  unfold wtW
  show _≤d.length+frW (x::fr)
  omega
structure Inv8 (i:Nat) (r:R8) (s:W8):Prop where
 same:Same8 r s
 w:wtW s≤400 * i
 rows:∀ x ∈ r.rows,x.length≤i∧sumL x≤400 * i
 n:r.rows.length≤18
theorem inv_zero:Inv8 0 ⟨[],[],0⟩ ⟨[],[],0⟩:=⟨same_zero,by decide,fun _ h=>(by cases h),by decide⟩
theorem inv_do {i:Nat} {r:R8} {s:W8} (h:Inv8 i r s) {v:VV} (hv:SmallV v):Inv8 (i+1) (rdoS v r) (doW v s):=by
 have hs:=same_do h.same v
 have hw:=wt_do hv s
 have hg:=grown_do v r
 have h0:=h.w
 have hl:(rdoS v r).tags.length≤16:=by rw [hs.tags];simpa using hs.lim
 refine ⟨hs,by omega,fun x hx=>?_,?_⟩
 ·rcases hg.2 x hx with h1|h1|⟨y,b,h1,h2,h3⟩
  ·have:=h.rows x h1;omega
  ·subst h1;simp [sumL]
  ·have ha:=active_sum hs
   rw [← h3] at ha
   refine ⟨?_,by omega⟩
   rw [h2,List.length_append,List.length_singleton]
   rcases h1 with h1|h1
   ·have:=h.rows y h1;omega
   ·subst h1;simp
 ·have:=hg.1
  have:=h.n
  omega
theorem inv_fail {i:Nat} {r:R8} {s:W8} (h:Inv8 i r s) (e:Nat):Inv8 i ⟨r.tags,r.rows,if r.e=0 then e else r.e⟩ (failW e s):=by
 have hs:=h.same
 refine ⟨?_,by rw [wt_fail];exact h.w,h.rows,h.n⟩
 unfold failW
 rw [hs.e]
 split
 ·exact ⟨hs.tags,rfl,hs.row0,hs.row,hs.len,hs.known,hs.lim⟩
 ·exact ⟨hs.tags,rfl,hs.row0,hs.row,hs.len,hs.known,hs.lim⟩
theorem inv_okW {i:Nat} {r:R8} {s:W8} (h:Inv8 i r s) (hi:i≤1000):OkW s:=by
 have hw:=h.w
 refine ⟨h.same.lim,fun x hx=>?_,by unfold wtW at hw;omega⟩
 obtain ⟨j,hj⟩:=List.mem_iff_getElem?.1 hx
 have hjl:=(List.getElem?_eq_some_iff.1 hj).1
 have hr:=h.same.row (s.fr.length-1-j) (by omega)
 have e:(s.fr.map Prod.snd).reverse.getD (s.fr.length-1-j) []=x.2:=by
  rw [List.getD_eq_getElem?_getD,List.getElem?_reverse (by simp;omega)]
  simp only [List.length_map,List.getElem?_map]
  rw [show s.fr.length-1-(s.fr.length-1-j)=j by omega,hj]
  rfl
 rw [e] at hr
 have hs:=frW_mem hx
 unfold wtW at hw
 refine ⟨?_,by omega⟩
 rcases at_mem r.rows (s.fr.length-1-j+1) with h1|h1
 ·have:=(h.rows _ h1).1
  rw [hr] at this
  omega
 ·rw [hr] at h1
  rw [h1];simp
theorem inv_okR {i:Nat} {r:R8} {s:W8} (h:Inv8 i r s) (hi:i≤1000):OkRD r:=by
 have hl:r.tags.length=s.fr.length:=by rw [h.same.tags];simp
 have hlim:=h.same.lim
 have hn:=h.n
 refine ⟨⟨by omega,by omega,fun x hx=>by have:=h.rows x hx;omega⟩,fun j=>?_,fun x hx=>?_,h.same.len⟩
 ·rcases at_mem r.rows j with h1|h1
  ·have:=h.rows _ h1;omega
  ·rw [h1];simp [sumL]
 ·rw [h.same.tags] at hx
  obtain ⟨y,hy,rfl⟩:=List.mem_map.1 (List.mem_reverse.1 hx)
  exact known_bd (made_known (h.same.known y hy))
end
section
open Go.RowKit
def rdE (l:List (List UInt8)) (k:Nat) (z:Nat×Option Nat):List (Option Nat×Res):=[(some z.1,.blk 2 (fl [.os 1 z.2 0 l.length 1,.err k])),(z.2,.blk l.length (lbF l))]
def rdO (n:Nat) (l:List (List UInt8)) (k:Nat):Option Nat×Res:=objE n (fun z:Nat×Option Nat=>z.1) (rdE l k)
section
variable {P:Program} {G:Gh} {s:AS} {c:Code} {R:Exit→AS→Prop} {n k:Nat} {l:List (List UInt8)}
theorem code_openR0 (i:Nat) (hi:s.H[i]?=some (rdO n l k)) (h:∀ gl,ACode P G c ⟨s.env,s.b,s.H.set i (some n,.blk 2 (fl [.os s.H.length gl 0 l.length 1,.err k]))++[(gl,.blk l.length (lbF l))]⟩ R):ACode P G c s R:=by
 have hlt:=(List.getElem?_eq_some_iff.1 hi).1
 refine code_unpack i hi fun z hz=>?_
 obtain ⟨n',gl⟩:=z
 obtain rfl:n'=n:=hz
 refine jE (weakH i 2 (fl [.os s.H.length gl 0 l.length 1,.err k]) (n:=2) (g:=some n') (f:=fl [.os 1 gl 0 l.length 1,.err k]) ?_ (Nat.le_refl _) fun j hj=>?_) ?_
 ·show (s.H.set i _++_)[i]?=_
  rw [List.getElem?_append_left (by simpa using hlt)]
  simp [hlt]
 ·rcases j with _|_|j
  ·exact CEnt.osI rfl
  ·exact cZ
  ·omega
 ·have e:(s.H.set i (some n',Res.blk 2 (fl [.os 1 gl 0 l.length 1,.err k]))++[(gl,Res.blk l.length (lbF l))]).set i (some n',.blk 2 (fl [.os s.H.length gl 0 l.length 1,.err k]))=s.H.set i (some n',.blk 2 (fl [.os s.H.length gl 0 l.length 1,.err k]))++[(gl,.blk l.length (lbF l))]:=by
   rw [List.set_append_left _ _ (by simpa using hlt),List.set_set]
  have:=h gl
  rw [← e] at this
  exact this
theorem closeR0 (n k:Nat) (l:List (List UInt8)) (i j:Nat) {gl:Option Nat} {N:Nat} {f F:Nat→CV} (hi:s.H[i]?=some (some n,.blk 2 f)) (hj:s.H[j]?=some (gl,.blk N F)) (hij:Nat.beq i j=false) (h0:CEnt (f 0) (.os 1 gl 0 l.length 1)) (h1:CEnt (f 1) (.err k)) (hN:l.length≤N) (hF:∀ a,a<l.length→CEnt (F a) (lbF l a)) :
  EntS G s ⟨s.env,s.b,(s.H.set i (rdO n l k)).set j (none,.dead)⟩:=by
 have hij:=Nat.ne_of_beq_eq_false hij
 have hil:=(List.getElem?_eq_some_iff.1 hi).1
 have hjl:=(List.getElem?_eq_some_iff.1 hj).1
 refine EntS.hrel fun h=>?_
 have h2:=h.weak (F:=fl [.os 1 gl 0 l.length 1,.err k]) hi (Nat.le_refl _) fun a ha=>by
  rcases a with _|_|a
  ·exact h0
  ·exact h1
  ·omega
 have h3:=h2.weak (i:=j) (F:=lbF l) (by rw [List.getElem?_set_ne hij];exact hj) hN hF
 have h4:=h3.closeN (gd:=fun z:Nat×Option Nat=>z.1) (E:=rdE l k) (n,gl) i [j] (by simp [hij]) (by simp [hil,hjl]) (by
  simp only [pickL,List.map_cons,List.map_nil,List.getD_eq_getElem?_getD]
  rw [List.getElem?_set_ne (Ne.symm hij)]
  simp [hil,hjl,rdE])
 have e:killL (((s.H.set i (some n,Res.blk 2 (fl [CV.os 1 gl 0 l.length 1,CV.err k]))).set j (gl,Res.blk l.length (lbF l))).set i (objE n (fun z:Nat×Option Nat=>z.1) (rdE l k))) [j]=(s.H.set i (rdO n l k)).set j (none,.dead):=by
  show ((((s.H.set i _).set j _).set i _).set j _)=_
  rw [List.set_comm _ _ (Ne.symm hij),List.set_set,List.set_set]
  rfl
 rw [← e]
 exact h4
theorem code_openR {env:List (Nat×CV)} {b0:Nat→CV} {H:List (Option Nat×Res)} (i:Nat) (hi:H[i]?=some (rdO n l k)) (h:∀ gl,ACode P G c ⟨env,b0,H.set i (some n,.blk 2 (fl [.os H.length gl 0 l.length 1,.err k]))++[(gl,.blk l.length (lbF l))]⟩ R):ACode P G c ⟨env,b0,H⟩ R:=code_openR0 i hi h
theorem closeR {env:List (Nat×CV)} {b0:Nat→CV} {H:List (Option Nat×Res)} (n k:Nat) (l:List (List UInt8)) (i j:Nat) {gl:Option Nat} {N:Nat} {f F:Nat→CV} (hi:H[i]?=some (some n,.blk 2 f)) (hj:H[j]?=some (gl,.blk N F)) (hij:Nat.beq i j=false) (h0:CEnt (f 0) (.os 1 gl 0 l.length 1)) (h1:CEnt (f 1) (.err k)) (hN:l.length≤N) (hF:∀ a,a<l.length→CEnt (F a) (lbF l a)) :
  EntS G ⟨env,b0,H⟩ ⟨env,b0,(H.set i (rdO n l k)).set j (none,.dead)⟩:=closeR0 n k l i j hi hj hij h0 h1 hN hF
end
def nowL (l:List (List UInt8)):List UInt8:=l.getD (l.length-1) []
def moreM (l:List (List UInt8)) (k:Nat):Bool:=decide (k=0) && decide (0<(nowL l).length)
theorem now_ac {gs:List Nat} (n:Nat) (l:List (List UInt8)) (k:Nat) (hl:0<l.length∧l.length≤1000000):AC gs Tryz.prog 68 [rdO n l k] [.op 0 (some n) 0] (fun r H'=>r=bsC (nowL l)∧H'=[rdO n l k]):=by
 refine ac_of 15 Tryz.func68 rfl rfl rfl (fun al w0 F0 St0=>?_)
 refine code_openR 0 rfl fun gl=>?_;refine jcr ?_;refine jq jrm ?_;refine jN ?_;refine jcs ?_
 skip
 refine jcd (.rd 0 (.rd 1 (.rd 2 (.rd 3 (.rd 4 (.rd 5 (.rd 6 (.rd 7 (.rd 8 (.rd 9 (.rd 10 (.rd 11 (.rd 12 .done))))))))))))) ?_;refine jyq jrm ?_;refine jyq jrnc ?_;refine jyq (jrfa 0 1 false) ?_;refine jyo jrdo ?_;refine jyq jrm ?_;refine jyq jrnc ?_;refine jyq (jrfa 0 1 false) ?_;refine jyo jrdo ?_;refine jyq jrl ?_;refine jyq jra ?_;refine jyq (jri (i:=(l.length-1)) (hz:=by omega)) ?_;refine jyo jrdo ?_;refine jyq jrm ?_;refine jyd ?_;refine jtn ?_;refine jR ?_
 exact end_pack (gd:=fun z:Nat×Option Nat=>z.1) (E:=rdE l k) (.inl rfl) _ (n,gl) [0,1] (by decide) rfl (res_1 rfl (arv_tmp rfl)) ⟨rfl,rfl⟩
theorem fail08_ac {gs:List Nat} (n:Nat) (l:List (List UInt8)) (k e:Nat):AC gs Tryz.prog 74 [rdO n l k] [.op 0 (some n) 0,.err e] (fun r H'=>r=.c (.tuple #[])∧H'=[rdO n l (if k=0 then e else k)]):=by
 refine ac_of 13 Tryz.func74 rfl rfl rfl (fun al w0 F0 St0=>?_)
 refine code_openR 0 rfl fun gl=>?_;refine jcr ?_;refine jq jrm ?_;refine jq jrnc ?_;refine jq (jrfa 1 1 false) ?_;refine jqo jrdo ?_;refine jq jre ?_;refine jN ?_;refine jcc (fun h161=>?_) fun h161=>?_
 rotate_left
 ·refine jS ?_
  rw [if_neg (by omega)]
  exact end_pack (gd:=fun z:Nat×Option Nat=>z.1) (E:=rdE l k) (.inr rfl) _ (n,gl) [0,1] (by decide) rfl (res_0 rfl) ⟨rfl,rfl⟩
 refine jcg ?_;refine jq jrm ?_;refine jq jrm ?_;refine jq jrnc ?_;refine jq (jrfa 1 1 false) ?_
 refine jqm (jmstF 1 (fl [.os 1 gl 0 l.length 1,.err e]) ?_ ?_)
 ·exact (fun j hj=>by rcases j with _|_|j <;> exact cZ)
 refine jN ?_
 rw [if_pos (by omega)]
 exact end_pack (gd:=fun z:Nat×Option Nat=>z.1) (E:=rdE l e) (.inr rfl) _ (n,gl) [0,1] (by decide) rfl (res_0 rfl) ⟨rfl,rfl⟩
theorem err08_ac {gs:List Nat} (n:Nat) (l:List (List UInt8)) (k:Nat):AC gs Tryz.prog 39 [rdO n l k] [.op 0 (some n) 0] (fun r H'=>r=.err k∧H'=[rdO n l k]):=by
 refine ac_of 7 Tryz.func39 rfl rfl rfl (fun al w0 F0 St0=>?_)
 refine code_openR 0 rfl fun gl=>?_;refine jcr ?_;refine jq jrm ?_;refine jN ?_
 skip
 refine jcr ?_;refine jq jrm ?_;refine jq jrnc ?_;refine jq (jrfa 1 1 false) ?_;refine jqo jrdo ?_;refine jq jrm ?_;refine jN ?_;refine jR ?_
 exact end_pack (gd:=fun z:Nat×Option Nat=>z.1) (E:=rdE l k) (.inl rfl) _ (n,gl) [0,1] (by decide) rfl (res_1 rfl (arv_tmp rfl)) ⟨rfl,rfl⟩
theorem more_pos {l:List (List UInt8)} {k:Nat} (h:moreM l k=true):k=0∧0<(nowL l).length:=by simpa [moreM] using h
theorem more_ac {gs:List Nat} (n:Nat) (l:List (List UInt8)) (k:Nat) (hl:0<l.length∧l.length≤1000000):AC gs Tryz.prog 111 [rdO n l k] [.op 0 (some n) 0] (fun r H'=>r=.c (.bool (moreM l k))∧H'=[rdO n l k]):=by
 refine ac_of 14 Tryz.func111 rfl rfl rfl (fun al w0 F0 St0=>?_)
 refine code_openR 0 rfl fun gl=>?_;refine jcr ?_;refine jq jrm ?_;refine jN ?_
 skip
 refine jcr ?_;refine jq jrm ?_;refine jq jrnc ?_;refine jq (jrfa 1 1 false) ?_;refine jqo jrdo ?_;refine seq_ent (closeR n k l 0 1 rfl rfl rfl cZ cZ (Nat.le_refl _) (fun _ _=>cZ)) ?_;refine jq jre ?_;refine jq jrm ?_;refine jqsp 8 (fun g173=>?_) fun g173=>?_
 rotate_left
 ·refine jqs ?_;refine jqs ?_;refine jqs ?_;refine jqs ?_;refine jq jrpF ?_;refine jq jrm ?_;refine jN ?_;refine jR ?_
  exact end_H (.inl rfl) rfl (res_1 rfl (arv_tmp rfl)) (CEnt.bool (by unfold moreM;(simp [g173];done)))
 refine jq jrm ?_
 refine jqm (jmcH 0 (now_ac n l k hl) ?_)
 rintro _ _ ⟨rfl,rfl⟩
 refine ⟨_,_,rfl,cZ,?_⟩
 refine jq jrl ?_;refine jq jrc ?_;refine jq jrpT ?_;refine jq jrm ?_;refine jN ?_;refine jR ?_
 exact end_H (.inl rfl) rfl (res_1 rfl (arv_tmp rfl)) (CEnt.bool (by unfold moreM;(simp [g173];done)))
end
section
variable {gs:List Nat} [Ok9 gs]
open Go.RowKit

structure NR where
 l:List (List UInt8)
 k:Nat
 tag:Nat
 body:List UInt8
 raw:List UInt8
 is:Bool
def nextR (tag:Int) (l:List (List UInt8)) (k:Nat):NR :=
 if k≠0 then ⟨l,k,0,[],[],false⟩ else
 if (nextM (nowL l)).e≠0 then ⟨l,(nextM (nowL l)).e,0,[],[],false⟩ else
 if tag≠0∧((nextM (nowL l)).tag:Int)≠tag then ⟨l,5,0,[],[],false⟩ else
 ⟨l.set (l.length-1) (nextM (nowL l)).rest,0,(nextM (nowL l)).tag,(nextM (nowL l)).body,(nowL l).take ((nowL l).length-(nextM (nowL l)).rest.length),true⟩
theorem lb_set {l:List (List UInt8)} {i:Nat} {x:List UInt8} {j:Nat} (hj:j<l.length):CEnt (updF (lbF l) i [bsC x] j) (lbF (l.set i x) j):=by
 refine CEnt.of_eq ?_
 rw [updF_get]
 simp only [lbF,List.length_singleton,List.getD_eq_getElem?_getD,List.getElem?_set]
 by_cases h:i=j
 ·subst h
  rw [if_pos (by omega),if_pos rfl,if_pos hj,Nat.sub_self]
  rfl
 ·rw [if_neg (by omega),if_neg h]
theorem nextR_ac (n:Nat) (l:List (List UInt8)) (k:Nat) (tag:Int) (hl:0<l.length∧l.length≤1000000) (hb:(nowL l).length≤10000000):AC gs Tryz.prog 69 [rdO n l k] [.op 0 (some n) 0,.c (.int .i64 tag)]
  (fun r H'=>r=.tup 3 (fl [elC (nextR tag l k).tag (nextR tag l k).body,bsC (nextR tag l k).raw,.c (.bool (nextR tag l k).is)])∧H'=[rdO n (nextR tag l k).l (nextR tag l k).k]):=by
 have hnb:=nextM_bd (nowL l)
 refine ac_of 67 Tryz.func69 rfl rfl rfl (fun al w0 F0 St0=>?_)
 refine jcr ?_
 refine jqe (jeal (n:=2) zr118 rfl fun p1=>?_)
 refine jq jrm ?_;refine jq jrm ?_;refine jN ?_;refine jcs ?_;refine code_openR 0 rfl fun gl=>?_;refine jcr ?_;refine jq jrm ?_;refine jq jrnc ?_;refine jq (jrfa 1 1 false) ?_;refine jqo jrdo ?_;refine jq jre ?_;refine jN ?_;refine jcc (fun h185=>?_) fun h185=>?_
 ·refine jE (closeR n k l 0 2 rfl rfl rfl (CEnt.osI rfl) cZ (Nat.le_refl _) (fun _ _=>cZ)) ?_
  dsimp only [List.set_cons_zero,List.set_cons_succ,List.cons_append,List.nil_append,List.length_cons,List.length_nil,Nat.zero_add,Nat.reduceAdd]
  refine jcr ?_;refine jq (rd_build (n:=2) rfl zr118 pl118 rfl rfl) ?_
  refine jqm (jmst 2 ?_)
  refine jq jrm ?_;refine jq jrm ?_;refine jN ?_
  refine jR (jtr ?_)
  have hN:nextR tag l k=⟨l,k,0,[],[],false⟩:=by unfold nextR;rw [if_pos (by omega)]
  rw [hN]
  refine end_H (.inl rfl) rfl (res_3 rfl (javA 2) javt javt) ?_
  exact CEnt.tup3 (CEnt.agg2 cZ CEnt.nilB) CEnt.nilB cZ
 refine jS (jtn ?_)
 obtain rfl:k=0:=by omega
 refine jE (closeR n 0 l 0 2 rfl rfl rfl (CEnt.osI rfl) cZ (Nat.le_refl _) (fun _ _=>cZ)) ?_
 dsimp only [List.set_cons_zero,List.set_cons_succ,List.cons_append,List.nil_append,List.length_cons,List.length_nil,Nat.zero_add,Nat.reduceAdd]
 refine jcr ?_;refine jq jrm ?_
 refine jqm (jmcH 0 (now_ac n l 0 hl) ?_)
 rintro _ _ ⟨rfl,rfl⟩
 refine ⟨_,_,rfl,cZ,?_⟩
 refine jqe (jecP (next_ac (nowL l) hb) ?_)
 refine jq jrm ?_;refine jq jrx ?_;refine jq jrx ?_;refine jq jrx ?_
 refine jqe (jeal (n:=2) zr118 rfl fun p3=>?_)
 refine jqm (jmst 2 ?_)
 refine jq jrm ?_;refine jq jrm ?_;refine jN ?_;refine jcs ?_;refine jB ?_;refine jcr ?_;refine jq jrm ?_;refine jq jre ?_;refine jq jrm ?_;refine jN ?_;refine jcc (fun h190=>?_) fun h190=>?_
 ·refine code_openR 0 rfl fun gl2=>?_;refine jcg ?_;refine jq jrm ?_;refine jq jrm ?_;refine jq jrnc ?_;refine jq (jrfa 1 1 false) ?_
  refine jqm (jmstF 1 (fl [.os 4 gl2 0 l.length 1,.err (nextM (nowL l)).e]) ?_ ?_)
  ·exact (fun j hj=>by rcases j with _|_|j <;> exact cZ)
  refine jN ?_
  refine jbn (jtn ?_)
  first
   | refine jE (closeR n (nextM (nowL l)).e l 0 4 rfl rfl rfl (CEnt.osI rfl) cZ (Nat.le_refl _) (fun _ _=>cZ)) ?_
   | refine jE (closeR n 5 l 0 4 rfl rfl rfl (CEnt.osI rfl) cZ (Nat.le_refl _) (fun _ _=>cZ)) ?_
  refine jcr ?_;refine jq (rd_build (n:=2) rfl zr118 pl118 rfl rfl) ?_
  refine jqm (jmst 2 ?_)
  refine jq jrm ?_;refine jq jrm ?_;refine jN ?_;refine jR ?_
  first
   |(have hN:nextR tag l 0=⟨l,(nextM (nowL l)).e,0,[],[],false⟩:=by unfold nextR;rw [if_neg (by omega),if_pos (by omega)])
   |(have hN:nextR tag l 0=⟨l,5,0,[],[],false⟩:=by unfold nextR;rw [if_neg (by omega),if_neg (by omega),if_pos (by omega)])
  rw [hN]
  refine end_H (.inl rfl) rfl (res_3 rfl (javA 2) javt javt) ?_
  exact CEnt.tup3 (CEnt.agg2 cZ CEnt.nilB) CEnt.nilB cZ
 refine jcr ?_;refine jq jrm ?_;refine jq jrc ?_;refine jq jrm ?_;refine jqsp 56 (fun g192=>?_) fun g192=>?_
 rotate_left
 ·refine jqs ?_;refine jqs ?_;refine jqs ?_;refine jqs ?_;refine jq jrpF ?_;refine jq jrm ?_;refine jN ?_;refine jcF ?_;refine jcr ?_;refine jq jrm ?_
  refine jqm (jmcH 0 (now_ac n l 0 hl) ?_)
  rintro _ _ ⟨rfl,rfl⟩
  refine ⟨_,_,rfl,cZ,?_⟩
  refine jq jrm ?_;refine jN ?_;refine jcs ?_;refine code_openR 0 rfl fun gl2=>?_;refine jcdB 12 (.rd 0 (.rd 1 (.rd 2 (.rd 3 (.rd 4 (.rd 5 (.rd 6 (.rd 7 (.rd 8 (.rd 9 (.rd 10 (.rd 11 .done)))))))))))) ?_;refine jyq jrm ?_;refine jyq jrnc ?_;refine jyq (jrfa 0 1 false) ?_;refine jyo jrdo ?_;refine jyq jrm ?_;refine jyq jrnc ?_;refine jyq (jrfa 0 1 false) ?_;refine jyo jrdo ?_;refine jyq jrl ?_;refine jyq jra ?_;refine jyq jrm ?_;refine jyq (jri (i:=(l.length-1)) (hz:=by omega)) ?_;refine jyd ?_
  show ASeq _ _ _ _ _ _
  refine jqm (jmstF 1 (lbF (l.set (l.length-1) (nextM (nowL l)).rest)) ?_ ?_)
  ·exact (fun j hj=>lb_set hj)
  refine jN ?_;refine jtn ?_;refine jcs ?_;refine jE (closeR n 0 (l.set (l.length-1) (nextM (nowL l)).rest) 0 4 rfl rfl rfl (CEnt.osI (by simp)) cZ (by simp) (fun _ _=>cZ)) ?_
  dsimp only [List.set_cons_zero,List.set_cons_succ,List.cons_append,List.nil_append,List.length_cons,List.length_nil,Nat.zero_add,Nat.reduceAdd]
  refine jE (freeze 3 rfl) ?_;refine jE (thawP 7 (m:=2) rfl rfl (by decide)) ?_;refine jcdZ (.rd 0 (.rd 1 (.rd 2 (.rd 3 (.rd 4 (.rd 5 (.rd 6 (.rd 7 (.one 8 (.rd 9 (.rd 10 .done))))))))))) ?_;refine jzq (jrdrA 2) ?_;refine jzq jrm ?_;refine jzq jrm ?_;refine jzq jrl ?_;refine jzq jrm ?_;refine jzq jrl ?_;refine jzq jra ?_;refine jzq jrst ?_
  refine jzm (jmst 2 ?_)
  refine jzq jrm ?_;refine jzq jrm ?_;refine jzd ?_;refine jtn ?_
  refine jR (jbr (jtr ?_))
  have hN:nextR tag l 0=⟨l.set (l.length-1) (nextM (nowL l)).rest,0,(nextM (nowL l)).tag,(nextM (nowL l)).body,(nowL l).take ((nowL l).length-(nextM (nowL l)).rest.length),true⟩:=by unfold nextR;rw [if_neg (by omega),if_neg (by omega),if_neg (by omega)]
  rw [hN]
  refine end_H (.inl rfl) rfl (res_3 rfl (javA 2) javt javt) ?_
  exact CEnt.tup3 (CEnt.agg2 cZ cZ) (CEnt.bs (by congr 1;omega)) cZ
 refine jq (jrfa 0 1 false) ?_;refine jqo jrdo ?_;refine jq jrm ?_;refine jq jrc ?_;refine jq jrpT ?_;refine jq jrm ?_;refine jN ?_;refine jcc (fun h192=>?_) fun h192=>?_
 ·refine code_openR 0 rfl fun gl2=>?_;refine jcg ?_;refine jq jrm ?_;refine jq (jrde 4) ?_;refine jq jrnc ?_;refine jq (jrfa 1 1 false) ?_
  refine jqm (jmstF 1 (fl [.os 4 gl2 0 l.length 1,.err 5]) ?_ ?_)
  ·exact (fun j hj=>by rcases j with _|_|j <;> exact cZ)
  refine jN ?_
  refine jbn (jtn ?_)
  first
   | refine jE (closeR n (nextM (nowL l)).e l 0 4 rfl rfl rfl (CEnt.osI rfl) cZ (Nat.le_refl _) (fun _ _=>cZ)) ?_
   | refine jE (closeR n 5 l 0 4 rfl rfl rfl (CEnt.osI rfl) cZ (Nat.le_refl _) (fun _ _=>cZ)) ?_
  refine jcr ?_;refine jq (rd_build (n:=2) rfl zr118 pl118 rfl rfl) ?_
  refine jqm (jmst 2 ?_)
  refine jq jrm ?_;refine jq jrm ?_;refine jN ?_;refine jR ?_
  first
   |(have hN:nextR tag l 0=⟨l,(nextM (nowL l)).e,0,[],[],false⟩:=by unfold nextR;rw [if_neg (by omega),if_pos (by omega)])
   |(have hN:nextR tag l 0=⟨l,5,0,[],[],false⟩:=by unfold nextR;rw [if_neg (by omega),if_neg (by omega),if_pos (by omega)])
  rw [hN]
  refine end_H (.inl rfl) rfl (res_3 rfl (javA 2) javt javt) ?_
  exact CEnt.tup3 (CEnt.agg2 cZ CEnt.nilB) CEnt.nilB cZ
 refine jcr ?_;refine jq jrm ?_
 refine jqm (jmcH 0 (now_ac n l 0 hl) ?_)
 rintro _ _ ⟨rfl,rfl⟩
 refine ⟨_,_,rfl,cZ,?_⟩
 refine jq jrm ?_;refine jN ?_;refine jcs ?_;refine code_openR 0 rfl fun gl2=>?_;refine jcdB 12 (.rd 0 (.rd 1 (.rd 2 (.rd 3 (.rd 4 (.rd 5 (.rd 6 (.rd 7 (.rd 8 (.rd 9 (.rd 10 (.rd 11 .done)))))))))))) ?_;refine jyq jrm ?_;refine jyq jrnc ?_;refine jyq (jrfa 0 1 false) ?_;refine jyo jrdo ?_;refine jyq jrm ?_;refine jyq jrnc ?_;refine jyq (jrfa 0 1 false) ?_;refine jyo jrdo ?_;refine jyq jrl ?_;refine jyq jra ?_;refine jyq jrm ?_;refine jyq (jri (i:=(l.length-1)) (hz:=by omega)) ?_;refine jyd ?_
 show ASeq _ _ _ _ _ _
 refine jqm (jmstF 1 (lbF (l.set (l.length-1) (nextM (nowL l)).rest)) ?_ ?_)
 ·exact (fun j hj=>lb_set hj)
 refine jN ?_;refine jtn ?_;refine jcs ?_;refine jE (closeR n 0 (l.set (l.length-1) (nextM (nowL l)).rest) 0 4 rfl rfl rfl (CEnt.osI (by simp)) cZ (by simp) (fun _ _=>cZ)) ?_
 dsimp only [List.set_cons_zero,List.set_cons_succ,List.cons_append,List.nil_append,List.length_cons,List.length_nil,Nat.zero_add,Nat.reduceAdd]
 refine jE (freeze 3 rfl) ?_;refine jE (thawP 7 (m:=2) rfl rfl (by decide)) ?_;refine jcdZ (.rd 0 (.rd 1 (.rd 2 (.rd 3 (.rd 4 (.rd 5 (.rd 6 (.rd 7 (.one 8 (.rd 9 (.rd 10 .done))))))))))) ?_;refine jzq (jrdrA 2) ?_;refine jzq jrm ?_;refine jzq jrm ?_;refine jzq jrl ?_;refine jzq jrm ?_;refine jzq jrl ?_;refine jzq jra ?_;refine jzq jrst ?_
 refine jzm (jmst 2 ?_)
 refine jzq jrm ?_;refine jzq jrm ?_;refine jzd ?_;refine jtn ?_
 refine jR (jbr (jtr ?_))
 have hN:nextR tag l 0=⟨l.set (l.length-1) (nextM (nowL l)).rest,0,(nextM (nowL l)).tag,(nextM (nowL l)).body,(nowL l).take ((nowL l).length-(nextM (nowL l)).rest.length),true⟩:=by unfold nextR;rw [if_neg (by omega),if_neg (by omega),if_neg (by omega)]
 rw [hN]
 refine end_H (.inl rfl) rfl (res_3 rfl (javA 2) javt javt) ?_
 exact CEnt.tup3 (CEnt.agg2 cZ cZ) (CEnt.bs (by congr 1;omega)) cZ
end
section
variable {gs:List Nat} [Ok9 gs]
open Go.RowKit

def enterR (tag:Int) (l:List (List UInt8)) (k:Nat):NR :=
 nextR tag l (if moreM l k=true∧madeM tag=false then 5 else k)
def enterL (tag:Int) (l:List (List UInt8)) (k:Nat):List (List UInt8):=if (enterR tag l k).is=true then (enterR tag l k).l++[(enterR tag l k).body] else (enterR tag l k).l
theorem enter_ac (n:Nat) (l:List (List UInt8)) (k:Nat) (tag:Int) (hl:0<l.length∧l.length≤1000000) (hb:(nowL l).length≤10000000):AC gs Tryz.prog 34 [rdO n l k] [.op 0 (some n) 0,.c (.int .i64 tag)]
  (fun r H'=>r=.c (.bool (enterR tag l k).is)∧H'=[rdO n (enterL tag l k) (enterR tag l k).k]):=by
 have hnl:∀ k,0<(nextR tag l k).l.length∧(nextR tag l k).l.length≤1000000:=fun k=>by
  unfold nextR
  split
  ·exact hl
  ·split
   ·exact hl
   ·split
    ·exact hl
    ·simp only [List.length_set];exact hl
 refine ac_of 48 Tryz.func34 rfl rfl rfl (fun al w0 F0 St0=>?_)
 refine jcr ?_;refine jq jrm ?_;refine jN ?_;refine jcs ?_;refine code_openR 0 rfl fun gl=>?_;refine jcr ?_;refine jq jrm ?_;refine jq jrnc ?_;refine jq (jrfa 1 1 false) ?_;refine jqo jrdo ?_;refine seq_ent (closeR n k l 0 1 rfl rfl rfl (CEnt.osI rfl) cZ (Nat.le_refl _) (fun _ _=>cZ)) ?_;refine jq jre ?_;refine jq jrm ?_;refine jqsp 13 (fun g204=>?_) fun g204=>?_
 rotate_left
 ·refine jqs ?_;refine jqs ?_;refine jqs ?_;refine jqs ?_;refine jq jrpF ?_;refine jq jrm ?_;refine jqs ?_;refine jqs ?_;refine jqs ?_;refine jq jrpF ?_;refine jN ?_;refine jcF ?_
  refine jS (jtn ?_)
  first
   |(refine jE (closeR n 5 l 0 2 rfl rfl rfl (CEnt.osI rfl) cZ (Nat.le_refl _) (fun _ _=>cZ)) ?_;refine jE (pick_ent (H':=[rdO n l 5]) [0] (by decide) rfl) ?_;have hE:enterR tag l k=nextR tag l 5:=by unfold enterR;rw [if_pos (by simp_all [moreM,madeM])])
   |(refine jE (pick_ent (H':=[rdO n l k]) [0] (by decide) rfl) ?_;have hE:enterR tag l k=nextR tag l k:=by unfold enterR;rw [if_neg (by simp_all [moreM,madeM])])
  refine jcr ?_;refine jq jrm ?_;refine jq jrm ?_
  refine jqm (jmcH 0 (nextR_ac n l _ tag hl hb) ?_)
  rintro _ _ ⟨rfl,rfl⟩
  refine ⟨_,_,rfl,cZ,?_⟩
  refine jq jrm ?_;refine jq jrx ?_;refine jq jrx ?_;refine jq jrx ?_
  refine jqe (jeal (n:=2) zr118 rfl fun p2=>?_)
  refine jqm (jmst 2 ?_)
  refine jq jrm ?_;refine jq jrm ?_;refine jN ?_;refine jcs ?_
  rw [← hE]
  have hel:0<(enterR tag l k).l.length∧(enterR tag l k).l.length≤1000000:=by rw [hE];exact hnl _
  refine jcr ?_;refine jq jrm ?_;refine jN ?_;refine jcc (fun h208=>?_) fun h208=>?_
  rotate_left
  ·refine jS (jtn ?_)
   first
    |(refine jE (closeR n (enterR tag l k).k ((enterR tag l k).l++[(enterR tag l k).body]) 0 2 rfl rfl rfl (CEnt.osI (by simp)) cZ (by simp) (fun _ _=>cZ)) ?_;have hL:enterL tag l k=(enterR tag l k).l++[(enterR tag l k).body]:=by unfold enterL;rw [if_pos (by simpa using h208)])
    | have hL:enterL tag l k=(enterR tag l k).l:=by unfold enterL;rw [if_neg (by simpa using h208)]
   refine jcr ?_;refine jq jrm ?_;refine jq jrm ?_;refine jN ?_;refine jR ?_
   rw [hL]
   exact end_H (.inl rfl) rfl (res_1 rfl (arv_tmp rfl)) cZ
  refine jE (freeze 1 rfl) ?_;refine jE (thawP 5 (m:=2) rfl rfl (by decide)) ?_
  dsimp only [List.set_cons_zero,List.set_cons_succ,List.cons_append,List.nil_append,List.length_cons,List.length_nil,Nat.zero_add,Nat.reduceAdd]
  refine code_openR 0 rfl fun gl3=>?_;refine jcdZ (.rd 0 (.rd 1 (.rd 2 (.rd 3 (.rd 4 (.rd 5 (.rd 6 (.one 7 (.one 8 (.rd 9 (.rd 10 (.one 11 .done)))))))))))) ?_;refine jzq jrm ?_;refine jzq jrm ?_;refine jzq jrnc ?_;refine jzq (jrfa 0 1 false) ?_;refine jzo jrdo ?_;refine jzq (jrfa 1 1 false) ?_;refine jzq jrdr ?_
  refine jze (jebl 1 1 zr22 fun p3=>?_)
  refine jzm (m_appendC (rowC_lb) (l2:=[(enterR tag l k).body]) rfl rfl rfl rfl (by omega) (fun _ _=>cZ) (src_os rfl (.inl rfl) (by decide)) rfl (fun j hj=>by rcases j with _|j <;> first|exact cZ|exact CEnt.int (by omega)|(exfalso;simp at hj <;> omega)) Tryz.underlying81 nu81 sz22 zr22 by22 rfl (by (simp;omega)) (by (simp;omega)) (leaf_flk rfl rfl) rfl rfl rfl (fun p4=>?_))
  refine jzq jrnc ?_;refine jzq (jrfa 0 1 false) ?_
  refine jzm (jmst 1 ?_)
  refine jzd ?_;refine jtn ?_
  first
   |(refine jE (closeR n (enterR tag l k).k ((enterR tag l k).l++[(enterR tag l k).body]) 0 2 rfl rfl rfl (CEnt.osI (by simp)) cZ (by simp) (fun _ _=>cZ)) ?_;have hL:enterL tag l k=(enterR tag l k).l++[(enterR tag l k).body]:=by unfold enterL;rw [if_pos (by simpa using h208)])
   | have hL:enterL tag l k=(enterR tag l k).l:=by unfold enterL;rw [if_neg (by simpa using h208)]
  refine jcr ?_;refine jq jrm ?_;refine jq jrm ?_;refine jN ?_;refine jR ?_
  rw [hL]
  exact end_H (.inl rfl) rfl (res_1 rfl (arv_tmp rfl)) cZ
 refine jq jrm ?_
 refine jqm (jmcH 0 (now_ac n l k hl) ?_)
 rintro _ _ ⟨rfl,rfl⟩
 refine ⟨_,_,rfl,cZ,?_⟩
 refine jq jrl ?_;refine jq jrc ?_;refine jq jrpT ?_;refine jq jrm ?_;refine jqsp 19 (fun g204_2=>?_) fun g204_2=>?_
 rotate_left
 ·refine jqs ?_;refine jqs ?_;refine jqs ?_;refine jq jrpF ?_;refine jN ?_;refine jcF ?_
  refine jS (jtn ?_)
  first
   |(refine jE (closeR n 5 l 0 2 rfl rfl rfl (CEnt.osI rfl) cZ (Nat.le_refl _) (fun _ _=>cZ)) ?_;refine jE (pick_ent (H':=[rdO n l 5]) [0] (by decide) rfl) ?_;have hE:enterR tag l k=nextR tag l 5:=by unfold enterR;rw [if_pos (by simp_all [moreM,madeM])])
   |(refine jE (pick_ent (H':=[rdO n l k]) [0] (by decide) rfl) ?_;have hE:enterR tag l k=nextR tag l k:=by unfold enterR;rw [if_neg (by simp_all [moreM,madeM])])
  refine jcr ?_;refine jq jrm ?_;refine jq jrm ?_
  refine jqm (jmcH 0 (nextR_ac n l _ tag hl hb) ?_)
  rintro _ _ ⟨rfl,rfl⟩
  refine ⟨_,_,rfl,cZ,?_⟩
  refine jq jrm ?_;refine jq jrx ?_;refine jq jrx ?_;refine jq jrx ?_
  refine jqe (jeal (n:=2) zr118 rfl fun p3=>?_)
  refine jqm (jmst 2 ?_)
  refine jq jrm ?_;refine jq jrm ?_;refine jN ?_;refine jcs ?_
  rw [← hE]
  have hel:0<(enterR tag l k).l.length∧(enterR tag l k).l.length≤1000000:=by rw [hE];exact hnl _
  refine jcr ?_;refine jq jrm ?_;refine jN ?_;refine jcc (fun h208=>?_) fun h208=>?_
  rotate_left
  ·refine jS (jtn ?_)
   first
    |(refine jE (closeR n (enterR tag l k).k ((enterR tag l k).l++[(enterR tag l k).body]) 0 2 rfl rfl rfl (CEnt.osI (by simp)) cZ (by simp) (fun _ _=>cZ)) ?_;have hL:enterL tag l k=(enterR tag l k).l++[(enterR tag l k).body]:=by unfold enterL;rw [if_pos (by simpa using h208)])
    | have hL:enterL tag l k=(enterR tag l k).l:=by unfold enterL;rw [if_neg (by simpa using h208)]
   refine jcr ?_;refine jq jrm ?_;refine jq jrm ?_;refine jN ?_;refine jR ?_
   rw [hL]
   exact end_H (.inl rfl) rfl (res_1 rfl (arv_tmp rfl)) cZ
  refine jE (freeze 1 rfl) ?_;refine jE (thawP 5 (m:=2) rfl rfl (by decide)) ?_
  dsimp only [List.set_cons_zero,List.set_cons_succ,List.cons_append,List.nil_append,List.length_cons,List.length_nil,Nat.zero_add,Nat.reduceAdd]
  refine code_openR 0 rfl fun gl3=>?_;refine jcdZ (.rd 0 (.rd 1 (.rd 2 (.rd 3 (.rd 4 (.rd 5 (.rd 6 (.one 7 (.one 8 (.rd 9 (.rd 10 (.one 11 .done)))))))))))) ?_;refine jzq jrm ?_;refine jzq jrm ?_;refine jzq jrnc ?_;refine jzq (jrfa 0 1 false) ?_;refine jzo jrdo ?_;refine jzq (jrfa 1 1 false) ?_;refine jzq jrdr ?_
  refine jze (jebl 1 1 zr22 fun p4=>?_)
  refine jzm (m_appendC (rowC_lb) (l2:=[(enterR tag l k).body]) rfl rfl rfl rfl (by omega) (fun _ _=>cZ) (src_os rfl (.inl rfl) (by decide)) rfl (fun j hj=>by rcases j with _|j <;> first|exact cZ|exact CEnt.int (by omega)|(exfalso;simp at hj <;> omega)) Tryz.underlying81 nu81 sz22 zr22 by22 rfl (by (simp;omega)) (by (simp;omega)) (leaf_flk rfl rfl) rfl rfl rfl (fun p5=>?_))
  refine jzq jrnc ?_;refine jzq (jrfa 0 1 false) ?_
  refine jzm (jmst 1 ?_)
  refine jzd ?_;refine jtn ?_
  first
   |(refine jE (closeR n (enterR tag l k).k ((enterR tag l k).l++[(enterR tag l k).body]) 0 2 rfl rfl rfl (CEnt.osI (by simp)) cZ (by simp) (fun _ _=>cZ)) ?_;have hL:enterL tag l k=(enterR tag l k).l++[(enterR tag l k).body]:=by unfold enterL;rw [if_pos (by simpa using h208)])
   | have hL:enterL tag l k=(enterR tag l k).l:=by unfold enterL;rw [if_neg (by simpa using h208)]
  refine jcr ?_;refine jq jrm ?_;refine jq jrm ?_;refine jN ?_;refine jR ?_
  rw [hL]
  exact end_H (.inl rfl) rfl (res_1 rfl (arv_tmp rfl)) cZ
 refine jq jrm ?_
 refine jqe (jecP (made_ac _) ?_)
 refine jq jrn ?_;refine jq jrpT ?_;refine jN ?_;refine jcc (fun h204=>?_) fun h204=>?_
 rotate_left
 ·refine jS (jtn ?_)
  first
   |(refine jE (closeR n 5 l 0 2 rfl rfl rfl (CEnt.osI rfl) cZ (Nat.le_refl _) (fun _ _=>cZ)) ?_;refine jE (pick_ent (H':=[rdO n l 5]) [0] (by decide) rfl) ?_;have hE:enterR tag l k=nextR tag l 5:=by unfold enterR;rw [if_pos (by simp_all [moreM,madeM])])
   |(refine jE (pick_ent (H':=[rdO n l k]) [0] (by decide) rfl) ?_;have hE:enterR tag l k=nextR tag l k:=by unfold enterR;rw [if_neg (by simp_all [moreM,madeM])])
  refine jcr ?_;refine jq jrm ?_;refine jq jrm ?_
  refine jqm (jmcH 0 (nextR_ac n l _ tag hl hb) ?_)
  rintro _ _ ⟨rfl,rfl⟩
  refine ⟨_,_,rfl,cZ,?_⟩
  refine jq jrm ?_;refine jq jrx ?_;refine jq jrx ?_;refine jq jrx ?_
  refine jqe (jeal (n:=2) zr118 rfl fun p3=>?_)
  refine jqm (jmst 2 ?_)
  refine jq jrm ?_;refine jq jrm ?_;refine jN ?_;refine jcs ?_
  rw [← hE]
  have hel:0<(enterR tag l k).l.length∧(enterR tag l k).l.length≤1000000:=by rw [hE];exact hnl _
  refine jcr ?_;refine jq jrm ?_;refine jN ?_;refine jcc (fun h208=>?_) fun h208=>?_
  rotate_left
  ·refine jS (jtn ?_)
   first
    |(refine jE (closeR n (enterR tag l k).k ((enterR tag l k).l++[(enterR tag l k).body]) 0 2 rfl rfl rfl (CEnt.osI (by simp)) cZ (by simp) (fun _ _=>cZ)) ?_;have hL:enterL tag l k=(enterR tag l k).l++[(enterR tag l k).body]:=by unfold enterL;rw [if_pos (by simpa using h208)])
    | have hL:enterL tag l k=(enterR tag l k).l:=by unfold enterL;rw [if_neg (by simpa using h208)]
   refine jcr ?_;refine jq jrm ?_;refine jq jrm ?_;refine jN ?_;refine jR ?_
   rw [hL]
   exact end_H (.inl rfl) rfl (res_1 rfl (arv_tmp rfl)) cZ
  refine jE (freeze 1 rfl) ?_;refine jE (thawP 5 (m:=2) rfl rfl (by decide)) ?_
  dsimp only [List.set_cons_zero,List.set_cons_succ,List.cons_append,List.nil_append,List.length_cons,List.length_nil,Nat.zero_add,Nat.reduceAdd]
  refine code_openR 0 rfl fun gl3=>?_;refine jcdZ (.rd 0 (.rd 1 (.rd 2 (.rd 3 (.rd 4 (.rd 5 (.rd 6 (.one 7 (.one 8 (.rd 9 (.rd 10 (.one 11 .done)))))))))))) ?_;refine jzq jrm ?_;refine jzq jrm ?_;refine jzq jrnc ?_;refine jzq (jrfa 0 1 false) ?_;refine jzo jrdo ?_;refine jzq (jrfa 1 1 false) ?_;refine jzq jrdr ?_
  refine jze (jebl 1 1 zr22 fun p4=>?_)
  refine jzm (m_appendC (rowC_lb) (l2:=[(enterR tag l k).body]) rfl rfl rfl rfl (by omega) (fun _ _=>cZ) (src_os rfl (.inl rfl) (by decide)) rfl (fun j hj=>by rcases j with _|j <;> first|exact cZ|exact CEnt.int (by omega)|(exfalso;simp at hj <;> omega)) Tryz.underlying81 nu81 sz22 zr22 by22 rfl (by (simp;omega)) (by (simp;omega)) (leaf_flk rfl rfl) rfl rfl rfl (fun p5=>?_))
  refine jzq jrnc ?_;refine jzq (jrfa 0 1 false) ?_
  refine jzm (jmst 1 ?_)
  refine jzd ?_;refine jtn ?_
  first
   |(refine jE (closeR n (enterR tag l k).k ((enterR tag l k).l++[(enterR tag l k).body]) 0 2 rfl rfl rfl (CEnt.osI (by simp)) cZ (by simp) (fun _ _=>cZ)) ?_;have hL:enterL tag l k=(enterR tag l k).l++[(enterR tag l k).body]:=by unfold enterL;rw [if_pos (by simpa using h208)])
   | have hL:enterL tag l k=(enterR tag l k).l:=by unfold enterL;rw [if_neg (by simpa using h208)]
  refine jcr ?_;refine jq jrm ?_;refine jq jrm ?_;refine jN ?_;refine jR ?_
  rw [hL]
  exact end_H (.inl rfl) rfl (res_1 rfl (arv_tmp rfl)) cZ
 refine code_openR 0 rfl fun gl2=>?_;refine jcg ?_;refine jq jrm ?_;refine jq (jrde 4) ?_;refine jq jrnc ?_;refine jq (jrfa 1 1 false) ?_
 refine jqm (jmstF 1 (fl [.os 2 gl2 0 l.length 1,.err 5]) ?_ ?_)
 ·exact (fun j hj=>by rcases j with _|_|j <;> exact cZ)
 refine jN ?_;refine jtn ?_
 first
  |(refine jE (closeR n 5 l 0 2 rfl rfl rfl (CEnt.osI rfl) cZ (Nat.le_refl _) (fun _ _=>cZ)) ?_;refine jE (pick_ent (H':=[rdO n l 5]) [0] (by decide) rfl) ?_;have hE:enterR tag l k=nextR tag l 5:=by unfold enterR;rw [if_pos (by simp_all [moreM,madeM])])
  |(refine jE (pick_ent (H':=[rdO n l k]) [0] (by decide) rfl) ?_;have hE:enterR tag l k=nextR tag l k:=by unfold enterR;rw [if_neg (by simp_all [moreM,madeM])])
 refine jcr ?_;refine jq jrm ?_;refine jq jrm ?_
 refine jqm (jmcH 0 (nextR_ac n l _ tag hl hb) ?_)
 rintro _ _ ⟨rfl,rfl⟩
 refine ⟨_,_,rfl,cZ,?_⟩
 refine jq jrm ?_;refine jq jrx ?_;refine jq jrx ?_;refine jq jrx ?_
 refine jqe (jeal (n:=2) zr118 rfl fun p3=>?_)
 refine jqm (jmst 2 ?_)
 refine jq jrm ?_;refine jq jrm ?_;refine jN ?_;refine jcs ?_
 rw [← hE]
 have hel:0<(enterR tag l k).l.length∧(enterR tag l k).l.length≤1000000:=by rw [hE];exact hnl _
 refine jcr ?_;refine jq jrm ?_;refine jN ?_;refine jcc (fun h208=>?_) fun h208=>?_
 rotate_left
 ·refine jS (jtn ?_)
  first
   |(refine jE (closeR n (enterR tag l k).k ((enterR tag l k).l++[(enterR tag l k).body]) 0 2 rfl rfl rfl (CEnt.osI (by simp)) cZ (by simp) (fun _ _=>cZ)) ?_;have hL:enterL tag l k=(enterR tag l k).l++[(enterR tag l k).body]:=by unfold enterL;rw [if_pos (by simpa using h208)])
   | have hL:enterL tag l k=(enterR tag l k).l:=by unfold enterL;rw [if_neg (by simpa using h208)]
  refine jcr ?_;refine jq jrm ?_;refine jq jrm ?_;refine jN ?_;refine jR ?_
  rw [hL]
  exact end_H (.inl rfl) rfl (res_1 rfl (arv_tmp rfl)) cZ
 refine jE (freeze 1 rfl) ?_;refine jE (thawP 5 (m:=2) rfl rfl (by decide)) ?_
 dsimp only [List.set_cons_zero,List.set_cons_succ,List.cons_append,List.nil_append,List.length_cons,List.length_nil,Nat.zero_add,Nat.reduceAdd]
 refine code_openR 0 rfl fun gl3=>?_;refine jcdZ (.rd 0 (.rd 1 (.rd 2 (.rd 3 (.rd 4 (.rd 5 (.rd 6 (.one 7 (.one 8 (.rd 9 (.rd 10 (.one 11 .done)))))))))))) ?_;refine jzq jrm ?_;refine jzq jrm ?_;refine jzq jrnc ?_;refine jzq (jrfa 0 1 false) ?_;refine jzo jrdo ?_;refine jzq (jrfa 1 1 false) ?_;refine jzq jrdr ?_
 refine jze (jebl 1 1 zr22 fun p4=>?_)
 refine jzm (m_appendC (rowC_lb) (l2:=[(enterR tag l k).body]) rfl rfl rfl rfl (by omega) (fun _ _=>cZ) (src_os rfl (.inl rfl) (by decide)) rfl (fun j hj=>by rcases j with _|j <;> first|exact cZ|exact CEnt.int (by omega)|(exfalso;simp at hj <;> omega)) Tryz.underlying81 nu81 sz22 zr22 by22 rfl (by (simp;omega)) (by (simp;omega)) (leaf_flk rfl rfl) rfl rfl rfl (fun p5=>?_))
 refine jzq jrnc ?_;refine jzq (jrfa 0 1 false) ?_
 refine jzm (jmst 1 ?_)
 refine jzd ?_;refine jtn ?_
 first
  |(refine jE (closeR n (enterR tag l k).k ((enterR tag l k).l++[(enterR tag l k).body]) 0 2 rfl rfl rfl (CEnt.osI (by simp)) cZ (by simp) (fun _ _=>cZ)) ?_;have hL:enterL tag l k=(enterR tag l k).l++[(enterR tag l k).body]:=by unfold enterL;rw [if_pos (by simpa using h208)])
  | have hL:enterL tag l k=(enterR tag l k).l:=by unfold enterL;rw [if_neg (by simpa using h208)]
 refine jcr ?_;refine jq jrm ?_;refine jq jrm ?_;refine jN ?_;refine jR ?_
 rw [hL]
 exact end_H (.inl rfl) rfl (res_1 rfl (arv_tmp rfl)) cZ
def leaveK (l:List (List UInt8)) (k:Nat):Nat:=if k≠0 then k else if l.length=1 then 24 else if 0<(nowL l).length then 4 else 0
def leaveL (l:List (List UInt8)) (k:Nat):List (List UInt8):=if leaveK l k=0 then l.take (l.length-1) else l
theorem lbF_take {l:List (List UInt8)} {m j:Nat} (h:j<m):CEnt (lbF l j) (lbF (l.take m) j):=by
 refine CEnt.of_eq ?_
 simp [lbF,List.getD_eq_getElem?_getD,List.getElem?_take,h]
theorem leave_ac (n:Nat) (l:List (List UInt8)) (k:Nat) (hl:0<l.length∧l.length≤1000000):AC gs Tryz.prog 40 [rdO n l k] [.op 0 (some n) 0]
  (fun r H'=>r=.c (.tuple #[])∧H'=[rdO n (leaveL l k) (leaveK l k)]):=by
 have stay:∀ {e},leaveK l k=e→e≠0→leaveL l k=l:=fun h h0=>by unfold leaveL;rw [h,if_neg h0]
 refine ac_of 45 Tryz.func40 rfl rfl rfl (fun al w0 F0 St0=>?_)
 refine code_openR 0 rfl fun gl=>?_;refine jcr ?_;refine jq jrm ?_;refine jq jrnc ?_;refine jq (jrfa 0 1 false) ?_;refine jqo jrdo ?_;refine jq jrl ?_;refine jq jra ?_;refine jq jrm ?_;refine jN ?_;refine jB ?_;refine jcr ?_;refine jq jrm ?_;refine jq jrnc ?_;refine jq (jrfa 1 1 false) ?_;refine jqo jrdo ?_;refine jq jre ?_;refine jq jrm ?_;refine jN ?_;refine jcc (fun h218=>?_) fun h218=>?_
 ·refine jS (jbn ?_)
  have e:leaveK l k=k:=by unfold leaveK;rw [if_pos (by omega)]
  rw [stay e (by omega),e]
  exact end_pack (gd:=fun z:Nat×Option Nat=>z.1) (E:=rdE l k) (.inr rfl) _ (n,gl) [0,1] (by decide) rfl (res_0 rfl) ⟨rfl,rfl⟩
 refine jcr ?_;refine jq jrm ?_;refine jq jrc ?_;refine jq jrm ?_;refine jN ?_;refine jcc (fun h219=>?_) fun h219=>?_
 ·refine jcg ?_;refine jq jrm ?_;refine jq (jrde 23) ?_;refine jq jrnc ?_;refine jq (jrfa 1 1 false) ?_
  refine jqm (jmstF 1 (fl [.os 1 gl 0 l.length 1,.err 24]) ?_ ?_)
  ·exact (fun j hj=>by rcases j with _|_|j <;> exact cZ)
  refine jN ?_;refine jbn ?_
  have e:leaveK l k=24:=by unfold leaveK;rw [if_neg (by omega),if_pos (by omega)]
  rw [stay e (by omega),e]
  exact end_pack (gd:=fun z:Nat×Option Nat=>z.1) (E:=rdE l 24) (.inr rfl) _ (n,gl) [0,1] (by decide) rfl (res_0 rfl) ⟨rfl,rfl⟩
 refine jcr ?_;refine jq jrm ?_;refine jq jrnc ?_;refine jq (jrfa 0 1 false) ?_;refine jqo jrdo ?_;refine jq jrm ?_;refine jq (jri (i:=(l.length-1)) (hz:=by omega)) ?_;refine jqo jrdo ?_;refine jq jrl ?_;refine jq jrc ?_;refine jq jrm ?_;refine jN ?_;refine jcc (fun h221=>?_) fun h221=>?_
 ·refine jcg ?_;refine jq jrm ?_;refine jq (jrde 3) ?_;refine jq jrnc ?_;refine jq (jrfa 1 1 false) ?_
  refine jqm (jmstF 1 (fl [.os 1 gl 0 l.length 1,.err 4]) ?_ ?_)
  ·exact (fun j hj=>by rcases j with _|_|j <;> exact cZ)
  refine jN ?_;refine jbn ?_
  have e:leaveK l k=4:=by unfold leaveK;rw [if_neg (by omega),if_neg (by omega),if_pos (by unfold nowL;omega)]
  rw [stay e (by omega),e]
  exact end_pack (gd:=fun z:Nat×Option Nat=>z.1) (E:=rdE l 4) (.inr rfl) _ (n,gl) [0,1] (by decide) rfl (res_0 rfl) ⟨rfl,rfl⟩
 refine jcg ?_;refine jq jrm ?_;refine jq jrm ?_;refine jq jrnc ?_;refine jq (jrfa 0 1 false) ?_;refine jqo jrdo ?_;refine jq jrm ?_;refine jq jrso ?_;refine jq jrnc ?_;refine jq (jrfa 0 1 false) ?_
 have hk0:k=0:=by omega
 refine seq_ent (weakH 1 (l.length-1) (lbF (l.take (l.length-1))) rfl (by omega) (fun j hj=>lbF_take hj)) ?_
 refine jqm (jmstF 1 (fl [.os 1 gl 0 (l.length-1) 1,.err 0]) ?_ ?_)
 ·exact (fun j hj=>by rcases j with _|_|j <;> first|exact cZ|exact CEnt.osI (by omega)|exact CEnt.err hk0|omega)
 refine jN ?_;refine jbn ?_
 have e:leaveK l k=0:=by unfold leaveK;rw [if_neg (by omega),if_neg (by omega),if_neg (by unfold nowL;omega)]
 have e2:leaveL l k=l.take (l.length-1):=by unfold leaveL;rw [if_pos e]
 have e3:(l.take (l.length-1)).length=l.length-1:=by rw [List.length_take];omega
 rw [e2,e]
 exact end_pack (gd:=fun z:Nat×Option Nat=>z.1) (E:=rdE (l.take (l.length-1)) 0) (.inr rfl) _ (n,gl) [0,1] (by decide) (by unfold rdE;rw [e3];rfl) (res_0 rfl) ⟨rfl,rfl⟩
def endK (l:List (List UInt8)) (k:Nat):Nat:=if k≠0 then k else if 1<l.length then 24 else if 0<(l.getD 0 []).length then 4 else 0
theorem end08_ac (n:Nat) (l:List (List UInt8)) (k:Nat) (hl:0<l.length∧l.length≤1000000):AC gs Tryz.prog 41 [rdO n l k] [.op 0 (some n) 0]
  (fun r H'=>r=.err (endK l k)∧H'=[rdO n l k]):=by
 refine ac_of 31 Tryz.func41 rfl rfl rfl (fun al w0 F0 St0=>?_)
 refine jcr ?_;refine jq jrm ?_;refine jN ?_;refine jcs ?_;refine jB ?_;refine code_openR 0 rfl fun gl=>?_;refine jcr ?_;refine jq jrm ?_;refine jq jrnc ?_;refine jq (jrfa 1 1 false) ?_;refine jqo jrdo ?_;refine jq jre ?_;refine jq jrm ?_;refine jN ?_;refine jcc (fun h292=>?_) fun h292=>?_
 ·refine jcr ?_;refine jq jrm ?_;refine jq jrnc ?_;refine jq (jrfa 1 1 false) ?_;refine jqo jrdo ?_;refine jq jrm ?_;refine jN ?_
  refine jR (jbr (jtr ?_))
  exact end_packV (gd:=fun z:Nat×Option Nat=>z.1) (E:=rdE l k) (.inl rfl) (n,gl) [0,1] (by decide) rfl (res_1 rfl (arv_tmp rfl)) (CEnt.err (by unfold endK;rw [if_pos (by omega)]))
 refine jcr ?_;refine jq jrm ?_;refine jq jrnc ?_;refine jq (jrfa 0 1 false) ?_;refine jqo jrdo ?_;refine jq jrl ?_;refine jq jrc ?_;refine jq jrm ?_;refine jN ?_;refine jcc (fun h294=>?_) fun h294=>?_
 ·refine jcr ?_;refine jq (jrde 23) ?_;refine jq jrm ?_;refine jN ?_
  refine jR (jbr (jtr ?_))
  exact end_packV (gd:=fun z:Nat×Option Nat=>z.1) (E:=rdE l k) (.inl rfl) (n,gl) [0,1] (by decide) rfl (res_1 rfl (arv_tmp rfl)) (CEnt.err (by unfold endK;rw [if_neg (by omega),if_pos (by omega)]))
 refine jcr ?_;refine jq jrm ?_;refine jq jrnc ?_;refine jq (jrfa 0 1 false) ?_;refine jqo jrdo ?_;refine jq (jri (i:=0)) ?_;refine jqo jrdo ?_;refine jq jrl ?_;refine jq jrc ?_;refine jq jrm ?_;refine jN ?_;refine jcc (fun h296=>?_) fun h296=>?_
 ·refine jcr ?_;refine jq (jrde 3) ?_;refine jq jrm ?_;refine jN ?_
  refine jR (jbr (jtr ?_))
  exact end_packV (gd:=fun z:Nat×Option Nat=>z.1) (E:=rdE l k) (.inl rfl) (n,gl) [0,1] (by decide) rfl (res_1 rfl (arv_tmp rfl)) (CEnt.err (by unfold endK;rw [if_neg (by omega),if_neg (by omega),if_pos (by omega)]))
 refine jS (jbn (jtn ?_))
 refine jcr ?_;refine jq jrm ?_;refine jN ?_;refine jR ?_
 have e:endK l k=0:=by unfold endK;rw [if_neg (by omega),if_neg (by omega),if_neg (by omega)]
 rw [e]
 exact end_packV (gd:=fun z:Nat×Option Nat=>z.1) (E:=rdE l k) (.inl rfl) (n,gl) [0,1] (by decide) rfl (res_1 rfl (arv_tmp rfl)) CEnt.nil
end
section
variable {gs:List Nat} [Ok9 gs]
open Go.RowKit

theorem nextR_is {tag:Int} {l:List (List UInt8)} {k:Nat} (h:(nextR tag l k).is=true):(nextR tag l k).k=0∧(nextR tag l k).body.length≤65530:=by
 have hb:=nextM_bd (nowL l)
 unfold nextR at h ⊢
 split
 ·rename_i h1;rw [if_pos h1] at h;cases h
 ·rename_i h1;rw [if_neg h1] at h
  split
  ·rename_i h2;rw [if_pos h2] at h;cases h
  ·rename_i h2;rw [if_neg h2] at h
   split
   ·rename_i h3;rw [if_pos h3] at h;cases h
   ·exact ⟨rfl,hb.2.2.1⟩
def valK (tag:Int) (l:List (List UInt8)) (k:Nat) (e:List UInt8→Nat):Nat:=if (nextR tag l k).is=true then e (nextR tag l k).body else (nextR tag l k).k
theorem nextR_len {tag:Int} {l:List (List UInt8)} {k:Nat}:(nextR tag l k).l.length=l.length:=by
 unfold nextR
 split
 ·rfl
 ·split
  ·rfl
  ·split
   ·rfl
   ·simp
theorem valueI_ac {gs:List Nat} [Ok9 gs] {f:FuncId} {m:Nat} {fv:Nat→CV} (hc:calleeB Tryz.prog f=true) (n:Nat) (l:List (List UInt8)) (k:Nat) (tag:Int) (get:List UInt8→Int×Nat) (hl:0<l.length∧l.length≤1000000) (hb:(nowL l).length≤10000000) (hp:∀ b:List UInt8,b.length≤65530→ACp gs Tryz.prog f (bsC b::(List.range m).map fv) (.tup 2 (fl [.c (.int .i64 (get b).1),.err (get b).2]))) :
  AC gs Tryz.prog 75 [rdO n l k] [.op 0 (some n) 0,.c (.int .i64 tag),.fn f m fv]
   (fun r H'=>r=.c (.int .i64 (if (nextR tag l k).is=true∧(get (nextR tag l k).body).2=0 then (get (nextR tag l k).body).1 else 0))∧H'=[rdO n (nextR tag l k).l (valK tag l k fun b=>(get b).2)]):=by
 have hln:(nextR tag l k).l.length=l.length:=nextR_len
 refine ac_of 38 Tryz.func75 rfl rfl rfl (fun al w0 F0 St0=>?_)
 refine jcr ?_;refine jq jrm ?_;refine jN ?_;refine jcr ?_;refine jq jrm ?_;refine jN ?_;refine jcr ?_;refine jq jrm ?_;refine jq jrm ?_
 refine jqm (jmcH 0 (nextR_ac n l k tag hl hb) ?_)
 rintro _ _ ⟨rfl,rfl⟩
 refine ⟨_,_,rfl,cZ,?_⟩
 refine jq jrm ?_;refine jq jrx ?_;refine jq jrx ?_;refine jq jrx ?_
 refine jqe (jeal (n:=2) zr118 rfl fun p2=>?_)
 refine jqm (jmst 2 ?_)
 refine jq jrm ?_;refine jq jrm ?_;refine jN ?_;refine jcs ?_;refine jcr ?_;refine jq jrm ?_;refine jq jrn ?_;refine jN ?_;refine jcc (fun h232=>?_) fun h232=>?_
 ·refine jcr ?_;refine jq jrm ?_;refine jq jrm ?_;refine jN ?_
  refine jR (jtr ?_)
  rw [if_neg (by simp_all)]
  have e:(valK tag l k fun b=>(get b).2)=(nextR tag l k).k:=by unfold valK;rw [if_neg (by simpa using h232)]
  rw [e]
  exact end_H (.inl rfl) rfl (res_1 rfl (arv_tmp rfl)) cZ
 refine jS (jtn ?_)
 have his:=nextR_is (by simpa using h232)
 refine jcr ?_;refine jq jrm ?_;refine jq (jrfa 1 1 false) ?_;refine jqo jrdo ?_
 refine jqe (e_callV rfl rfl (by assumption) (hp (nextR tag l k).body his.2) (entL_fn cZ _) rfl rfl ?_)
 rintro _ _ ⟨rfl,rfl⟩
 refine jq jrm ?_;refine jq jrx ?_;refine jq jrx ?_;refine jq jrm ?_;refine jq jrm ?_;refine jN ?_;refine jcs ?_;refine jcr ?_;refine jq jrm ?_;refine jq jre ?_;refine jN ?_;refine jcc (fun h236=>?_) fun h236=>?_
 rotate_left
 ·refine jS (jtn ?_)
  refine jcr ?_;refine jq jrm ?_;refine jq jrm ?_;refine jN ?_;refine jR ?_
  have h0:(get (nextR tag l k).body).2=0:=by omega
  rw [if_pos ⟨by simpa using h232,h0⟩]
  have e:(valK tag l k fun b=>(get b).2)=(nextR tag l k).k:=by unfold valK;rw [if_pos (by simpa using h232),his.1];exact h0
  rw [e]
  exact end_H (.inl rfl) rfl (res_1 rfl (arv_tmp rfl)) cZ
 refine code_openR 0 rfl fun gl=>?_;refine jcr ?_;refine jq jrm ?_;refine jq jrm ?_;refine jq jrnc ?_;refine jq (jrfa 1 1 false) ?_
 refine jqm (jmst 1 ?_)
 refine jN ?_;refine jE (closeR n (get (nextR tag l k).body).2 (nextR tag l k).l 0 2 rfl rfl rfl (CEnt.osI rfl) cZ (Nat.le_refl _) (fun _ _=>cZ)) ?_;refine jcr ?_;refine jq jrm ?_;refine jq jrm ?_;refine jN ?_
 refine jR (jtr ?_)
 rw [if_neg (by omega)]
 have e:(valK tag l k fun b=>(get b).2)=(get (nextR tag l k).body).2:=by unfold valK;rw [if_pos (by simpa using h232)]
 rw [e]
 exact end_H (.inl rfl) rfl (res_1 rfl (arv_tmp rfl)) cZ
theorem CEnt.fn2' {k:FuncId} {f g:Nat→CV} (h0:CEnt (f 0) (g 0)) (h1:CEnt (f 1) (g 1)):CEnt (.fn k 2 f) (.fn k 2 g):=fun al St w v ⟨cs,k1,k2,k3⟩=>⟨cs,k1,k2,fun i hi=>by
 rcases i with _|_|i
 ·exact h0 _ _ _ _ (k3 0 (by omega))
 ·exact h1 _ _ _ _ (k3 1 (by omega))
 ·omega⟩
theorem int_box {z:Int}:∀ j,j<1→CEnt (fl [CV.c (.int .i64 z)] (0+j)) (CV.c (.int .i64 z)):=fun j hj=>by
 obtain rfl:j=0:=by omega
 exact cZ
def twoF (a b:Int):Nat→CV:=fl [.rp 1 fun _=>.c (.int .i64 a),.rp 1 fun _=>.c (.int .i64 b)]
theorem intG_ac (least most:Int) (b:List UInt8):ACp gs Tryz.prog 76 (bsC b::(List.range 2).map (twoF least most)) (.tup 2 (fl [.c (.int .i64 (rangeM b least most).1),.err (rangeM b least most).2])):=by
 refine ac_of 12 Tryz.func76 rfl rfl rfl (fun al w0 F0 St0=>?_)
 refine jcr ?_;refine jq jrm ?_;refine jq jrm ?_;refine jN ?_;refine jcr ?_;refine jq jrm ?_;refine jq jrdr ?_;refine jq jrdr ?_
 refine jqe (jecP (wrange_ac b least most) ?_)
 refine jq jrx ?_;refine jq jrx ?_;refine jq jrm ?_;refine jq jrm ?_;refine jN ?_
 refine jR jrt
theorem int08_ac (n:Nat) (l:List (List UInt8)) (k:Nat) (least most:Int) (hl:0<l.length∧l.length≤1000000) (hb:(nowL l).length≤10000000) :
  AC gs Tryz.prog 37 [rdO n l k] [.op 0 (some n) 0,.c (.int .i64 least),.c (.int .i64 most)]
   (fun r H'=>r=.c (.int .i64 (if (nextR 2 l k).is=true∧(rangeM (nextR 2 l k).body least most).2=0 then (rangeM (nextR 2 l k).body least most).1 else 0))∧H'=[rdO n (nextR 2 l k).l (valK 2 l k fun b=>(rangeM b least most).2)]):=by
 refine ac_of 10 Tryz.func37 rfl rfl rfl (fun al w0 F0 St0=>?_)
 refine jcr ?_
 refine jqe (jebx 1 fun p1=>?_)
 refine jqe (jebx 1 fun p2=>?_)
 refine jq jrm ?_;refine jN ?_;refine jE (freeze 1 rfl) ?_;refine jE (freeze 2 rfl) ?_;refine jE (thawP 4 (m:=1) rfl rfl (by decide)) ?_;refine jE (thawP 5 (m:=1) rfl rfl (by decide)) ?_;refine jcr ?_;refine jq jrm ?_;refine jq jrmf ?_
 refine jqm (jmcH 0 (valueI_ac (fv:=twoF least most) (by kernel_rfl) n l k 2 (fun b=>rangeM b least most) hl hb (fun b _=>intG_ac least most b)) ?_ (ho:=rfl) (he:=(.cons (se rfl CEnt.opI) (.cons (se rfl cZ) (.cons (se rfl (CEnt.fn2' (CEnt.rp int_box) (CEnt.rp int_box))) .nil)))))
 rintro _ _ ⟨rfl,rfl⟩
 refine ⟨_,_,rfl,cZ,?_⟩
 refine jq jrm ?_;refine jN ?_;refine jR ?_
 exact end_H (.inl rfl) rfl (res_1 rfl (arv_tmp rfl)) cZ
end
section
variable {gs:List Nat} [Ok9 gs]
open Go.RowKit

theorem read08_ac (b:List UInt8) (hb:b.length≤10000000):AC gs Tryz.prog 32 [] [bsC b] (fun r H'=>∃ n,r=.op 0 (some n) 0∧H'=[rdO n [b] (depthM b).2]):=by
 refine ac_of 10 Tryz.func32 rfl rfl rfl (fun al w0 F0 St0=>?_)
 refine jcr ?_;refine jq jrm ?_;refine jN ?_;refine jcr ?_;refine jq jrm ?_
 refine jqe (jecP (clone8_ac b (by omega)) ?_)
 refine jqe (jebl 1 1 zr22 fun p1=>?_)
 refine jq jrm ?_
 refine jqe (jecP (check_ac b hb) ?_)
 refine jq (rd_build (n:=2) rfl zr116 pl116 rfl rfl) ?_
 refine jqe (jebx 2 fun p2=>?_)
 refine jq jrm ?_;refine jN ?_;refine code_knowG (know_op 2 rfl) fun hn=>?_
 obtain ⟨n,rfl⟩:=hn
 refine jE (closeR n (depthM b).2 [b] 1 0 rfl rfl rfl (CEnt.osI rfl) cZ (Nat.le_refl _) (fun a ha=>by obtain rfl:a=0:=(by simpa using ha);exact cZ)) ?_;refine jR ?_
 exact end_ownV (.inl rfl) [1] (by decide) rfl (res_1 rfl (arv_tmp rfl)) (CEnt.opI (j:=0)) ⟨n,rfl,rfl⟩
end
section
variable {gs:List Nat} [Ok9 gs]
open Go.RowKit

theorem valueS_ac {gs:List Nat} [Ok9 gs] {f:FuncId} {m:Nat} {fv:Nat→CV} (hc:calleeB Tryz.prog f=true) (n:Nat) (l:List (List UInt8)) (k:Nat) (tag:Int) (get:List UInt8→(List UInt8)×Nat) (hl:0<l.length∧l.length≤1000000) (hb:(nowL l).length≤10000000) (hp:∀ b:List UInt8,b.length≤65530→ACp gs Tryz.prog f (bsC b::(List.range m).map fv) (.tup 2 (fl [strC (get b).1,.err (get b).2]))) :
  AC gs Tryz.prog 142 [rdO n l k] [.op 0 (some n) 0,.c (.int .i64 tag),.fn f m fv]
   (fun r H'=>r=strC (if (nextR tag l k).is=true∧(get (nextR tag l k).body).2=0 then (get (nextR tag l k).body).1 else [])∧H'=[rdO n (nextR tag l k).l (valK tag l k fun b=>(get b).2)]):=by
 have hln:(nextR tag l k).l.length=l.length:=nextR_len
 refine ac_of 38 Tryz.func142 rfl rfl rfl (fun al w0 F0 St0=>?_)
 refine jcr ?_;refine jq jrm ?_;refine jN ?_;refine jcr ?_;refine jq jrm ?_;refine jN ?_;refine jcr ?_;refine jq jrm ?_;refine jq jrm ?_
 refine jqm (jmcH 0 (nextR_ac n l k tag hl hb) ?_)
 rintro _ _ ⟨rfl,rfl⟩
 refine ⟨_,_,rfl,cZ,?_⟩
 refine jq jrm ?_;refine jq jrx ?_;refine jq jrx ?_;refine jq jrx ?_
 refine jqe (jeal (n:=2) zr118 rfl fun p2=>?_)
 refine jqm (jmst 2 ?_)
 refine jq jrm ?_;refine jq jrm ?_;refine jN ?_;refine jcs ?_;refine jcr ?_;refine jq jrm ?_;refine jq jrn ?_;refine jN ?_;refine jcc (fun h232=>?_) fun h232=>?_
 ·refine jcr ?_;refine jq jrm ?_;refine jq jrm ?_;refine jN ?_
  refine jR (jtr ?_)
  rw [if_neg (by simp_all)]
  have e:(valK tag l k fun b=>(get b).2)=(nextR tag l k).k:=by unfold valK;rw [if_neg (by simpa using h232)]
  rw [e]
  exact end_H (.inl rfl) rfl (res_1 rfl (arv_tmp rfl)) cZ
 refine jS (jtn ?_)
 have his:=nextR_is (by simpa using h232)
 refine jcr ?_;refine jq jrm ?_;refine jq (jrfa 1 1 false) ?_
 first|refine jqo jrdo ?_|refine jq jrdr ?_
 refine jqe (e_callV rfl rfl (by first|assumption|kernel_rfl) (hp (nextR tag l k).body his.2) (entL_fn cZ _) rfl rfl ?_)
 rintro _ _ ⟨rfl,rfl⟩
 refine jq jrm ?_;refine jq jrx ?_;refine jq jrx ?_;refine jq jrm ?_;refine jq jrm ?_;refine jN ?_;refine jcs ?_;refine jcr ?_;refine jq jrm ?_;refine jq jre ?_;refine jN ?_;refine jcc (fun h236=>?_) fun h236=>?_
 rotate_left
 ·refine jS (jtn ?_)
  refine jcr ?_;refine jq jrm ?_;refine jq jrm ?_;refine jN ?_;refine jR ?_
  have h0:(get (nextR tag l k).body).2=0:=by omega
  rw [if_pos ⟨by simpa using h232,h0⟩]
  have e:(valK tag l k fun b=>(get b).2)=(nextR tag l k).k:=by unfold valK;rw [if_pos (by simpa using h232),his.1];exact h0
  rw [e]
  exact end_H (.inl rfl) rfl (res_1 rfl (arv_tmp rfl)) cZ
 refine code_openR 0 rfl fun gl=>?_;refine jcr ?_;refine jq jrm ?_;refine jq jrm ?_;refine jq jrnc ?_;refine jq (jrfa 1 1 false) ?_
 refine jqm (jmst 1 ?_)
 refine jN ?_;refine jE (closeR n (get (nextR tag l k).body).2 (nextR tag l k).l 0 2 rfl rfl rfl (CEnt.osI rfl) cZ (Nat.le_refl _) (fun _ _=>cZ)) ?_;refine jcr ?_;refine jq jrm ?_;refine jq jrm ?_;refine jN ?_
 refine jR (jtr ?_)
 rw [if_neg (by omega)]
 have e:(valK tag l k fun b=>(get b).2)=(get (nextR tag l k).body).2:=by unfold valK;rw [if_pos (by simpa using h232)]
 rw [e]
 exact end_H (.inl rfl) rfl (res_1 rfl (arv_tmp rfl)) cZ
end
section
open Go.RowKit
def ssF (ls:List (List UInt8)) (j:Nat):CV:=strC (ls.getD j [])
def ssC (ls:List (List UInt8)):CV:=.rs 1 ls.length fun i _=>strC (ls.getD i [])
theorem rowC_ss:RowC 1 ssF:=fun l l2 j hj=>by
 simp only [ssF,List.getD_eq_getElem?_getD]
 split
 ·rw [List.getElem?_append_left (by omega)]
 ·rw [List.getElem?_append_right (by omega),Nat.mul_one]
theorem ss_thaw {ls:List (List UInt8)}:∀ a b,a<ls.length→b<1→CEnt (ssF ls (0+(a * 1+b))) (strC (ls.getD a [])):=fun a b ha hb=>CEnt.of_eq (by rw [show 0+(a * 1+b)=a by omega];rfl)

theorem join_ac {gs:List Nat} (ls:List (List UInt8)) (sep:List UInt8) (h1:ls.length≤1000000000) (h2:(Lib.join ls sep).length≤100000000000):ACp gs Tryz.prog 184 [ssC ls,strC sep] (strC (Lib.join ls sep)) :=
 ac_old fun al w St vals hs hv hr=>by
  obtain ⟨ao,cap,k1,k2,k3,k4,k5⟩:=hr 0
  rw [vals2 hv,show vals.getD 0 undef=.slice ao ls.length cap from k1,show vals.getD 1 undef=.string ⟨sep.toArray⟩ from hr 1]
  by_cases hn:ls=[]
  ·subst hn
   exact (Tryz.strings_Join_none ao cap _ w).mono (by rintro e w' ⟨rfl,rfl⟩;exact ⟨rfl,Below.refl _ _⟩)
  ·have hp:0<ls.length:=List.length_pos_iff.2 hn
   obtain ⟨a,rfl⟩:∃ a,ao=some a:=by
    cases ao with
    | none=>have:=k4 rfl;omega
    | some a=>exact ⟨a,rfl⟩
   obtain ⟨e1,e2,e3⟩:=k5 a rfl hp
   obtain ⟨bk,o,sp⟩:=a
   obtain rfl:sp=none:=e1
   have hm:(ls.map fun l=>(⟨l.toArray⟩:ByteArray)).map (·.data.toList)=ls:=by
    rw [List.map_map]
    exact (List.map_congr_left fun x _=>by simp).trans (List.map_id ls)
   have hc:∀ (j:Nat) x,(ls.map fun l=>(⟨l.toArray⟩:ByteArray))[j]?=some x→w.cell? ⟨bk,o+j,none⟩=some (.string x):=fun j x hx=>by
    rw [List.getElem?_map] at hx
    obtain ⟨y,hy,rfl⟩:=Option.map_eq_some_iff.1 hx
    have hj:j<ls.length:=(List.getElem?_eq_some_iff.1 hy).1
    obtain ⟨v,hv1,hv2⟩:=e3 j 0 hj (by omega)
    rw [show o+(j * 1+0)=o+j by omega] at hv1
    rw [hv1]
    have:v=.string ⟨(ls.getD j []).toArray⟩:=hv2
    rw [this,List.getD_eq_getElem?_getD,hy];rfl
   have hb:bk<w.heap.size:=by
    obtain ⟨v,hv1,hv2⟩:=e3 0 0 hp (by omega)
    exact World.block_lt_of_cell? w _ hv1
   have hj:=Tryz.strings_Join bk o cap (ls.map fun l=>(⟨l.toArray⟩:ByteArray)) ⟨sep.toArray⟩ w hc hb (by rw [List.length_map];omega) (by rw [List.length_map];exact k2) (by rw [hm];show (Lib.join ls sep).length≤_;omega)
   rw [hm,List.length_map] at hj
   exact hj
end
section
variable {gs:List Nat} [Ok2 gs]
open Go.RowKit

def inR (n:Int):Bool:=decide (0≤n) && decide (n≤2147483647)
theorem rightA_not {l:List Int} (h:(l.length:Int)<2∨(16:Int)<l.length∨l.getD 0 0<0∨2<l.getD 0 0∨(l.getD 0 0<2∧39<l.getD 1 0)∨l.all inR=false):rightA l=false:=by
 cases e:rightA l with
 | false=>rfl
 | true =>
  obtain ⟨h1,h2,h3,h4,h5⟩:=right_at e
  rcases h with h|h|h|h|h|h
  ·omega
  ·omega
  ·have:=h3 _ (getD_mem' (l:=l) (k:=0) 0 (by omega));omega
  ·omega
  ·omega
  ·have:l.all inR=true:=List.all_eq_true.2 fun n hn=>by have:=h3 n hn;unfold inR;simp;omega
   rw [this] at h;cases h
theorem rightA_yes {l:List Int} (h1:¬ (l.length:Int)<2) (h2:¬ (16:Int)<l.length) (h3:¬ 2<l.getD 0 0) (h4:¬ (l.getD 0 0<2∧39<l.getD 1 0)) (h5:l.all inR=true):rightA l=true:=by
 unfold rightA
 have e:l.all (fun n=>decide (0≤n) && decide (n≤2147483647))=true:=h5
 rw [e,decide_eq_true (show 2≤l.length by omega),decide_eq_true (show l.length≤16 by omega),decide_eq_true (show l.getD 0 0≤2 by omega)]
 by_cases h6:l.getD 0 0=2
 ·rw [decide_eq_true h6];rfl
 ·rw [decide_eq_true (show l.getD 1 0<40 by omega),Bool.or_true];rfl
theorem inR_yes {n:Int} (h1:¬ n<0) (h2:¬ 2147483647<n):inR n=true:=by
 unfold inR
 simp only [Bool.and_eq_true,decide_eq_true_eq]
 omega
theorem inR_no {n:Int} (h:n<0∨2147483647<n):inR n=false:=by
 cases e:inR n with
 | false=>rfl
 | true =>
  unfold inR at e
  simp only [Bool.and_eq_true,decide_eq_true_eq] at e
  omega
theorem figR_two (p:List UInt8):((figR p).2=true↔(figM p).2=0)∧((figR p).2=true→(figR p).1=(figM p).1):=by
 unfold figR
 split
 ·rename_i h;exact ⟨⟨fun _=>h,fun _=>rfl⟩,fun _=>rfl⟩
 ·rename_i h;exact ⟨⟨fun e=>(by cases e),fun e=>absurd e h⟩,fun e=>(by cases e)⟩
theorem okP_bad {p:List UInt8} (h:(figR p).2=false∨(10:Int)<p.length):okP p=false:=by
 cases e:okP p with
 | false=>rfl
 | true =>
  unfold okP at e
  simp only [Bool.and_eq_true,decide_eq_true_eq] at e
  have:=(figR_two p).1.2 e.1
  rcases h with h|h
  ·rw [h] at this;cases this
  ·omega
theorem okP_good {p:List UInt8} (h:(figR p).2=true) (h2:¬ (10:Int)<p.length):okP p=true∧((figR p).1:Int)=valP p:=by
 refine ⟨?_,by rw [(figR_two p).2 h];rfl⟩
 unfold okP
 simp only [Bool.and_eq_true,decide_eq_true_eq]
 exact ⟨(figR_two p).1.1 h,by omega⟩
theorem take_allO {α:Type} {p:α→Bool} {l:List α} {i:Nat} (d:α) (h:i<l.length) (h1:(l.take i).all p=true) (h2:p (l.getD i d)=true):(l.take (i+1)).all p=true:=by
 rw [take_get d h,List.all_append,h1,List.all_cons,h2]
 rfl
theorem rright5_ac {gs:List Nat} (l:List Int):ACp gs Tryz.prog 124 [isC l] (.c (.bool (rightA l))):=by
 refine ac_len 0 rfl fun hlen=>?_
 refine ac_of 50 Tryz.func124 rfl rfl rfl (fun al w0 F0 St0=>?_)
 refine jcr ?_;refine jq jrm ?_;refine jN ?_;refine jcs ?_;refine jcr ?_;refine jq jrm ?_;refine jq jrl ?_;refine jq jrc ?_;refine jq jrm ?_;refine jqsp 8 (fun g11=>?_) fun g11=>?_
 ·refine jqs ?_;refine jqs ?_;refine jqs ?_;refine jq jrpT ?_;refine jq jrm ?_;refine jqs ?_;refine jqs ?_;refine jqs ?_;refine jqs ?_;refine jq jrpT ?_;refine jq jrm ?_;refine jqs ?_;refine jqs ?_;refine jqs ?_;refine jqs ?_;refine jq jrpT ?_;refine jq jrm ?_;refine jqs ?_;refine jqs ?_;refine jqs ?_;refine jqs ?_;refine jqs ?_;refine jqs ?_;refine jqs ?_;refine jqs ?_;refine jqs ?_;refine jqs ?_;refine jq jrpT ?_;refine jN ?_;refine jcT ?_;refine jcr ?_;refine jq jrm ?_;refine jN ?_
  refine jR (jtr (jrt (hv:=?_)))
  refine CEnt.bool ?_
  refine (rightA_not ?_).symm
  omega
 refine jq jrm ?_;refine jq jrl ?_;refine jq jrc ?_;refine jq jrpF ?_;refine jq jrm ?_;refine jqsp 13 (fun g11_2=>?_) fun g11_2=>?_
 ·refine jqs ?_;refine jqs ?_;refine jqs ?_;refine jqs ?_;refine jq jrpT ?_;refine jq jrm ?_;refine jqs ?_;refine jqs ?_;refine jqs ?_;refine jqs ?_;refine jq jrpT ?_;refine jq jrm ?_;refine jqs ?_;refine jqs ?_;refine jqs ?_;refine jqs ?_;refine jqs ?_;refine jqs ?_;refine jqs ?_;refine jqs ?_;refine jqs ?_;refine jqs ?_;refine jq jrpT ?_;refine jN ?_;refine jcT ?_;refine jcr ?_;refine jq jrm ?_;refine jN ?_
  refine jR (jtr (jrt (hv:=?_)))
  refine CEnt.bool ?_
  refine (rightA_not ?_).symm
  omega
 refine jq jrm ?_;refine jq (jri (i:=0)) ?_;refine jq jrdr ?_;refine jq jrc ?_;refine jq jrpF ?_;refine jq jrm ?_;refine jqsp 19 (fun g11_3=>?_) fun g11_3=>?_
 ·refine jqs ?_;refine jqs ?_;refine jqs ?_;refine jqs ?_;refine jq jrpT ?_;refine jq jrm ?_;refine jqs ?_;refine jqs ?_;refine jqs ?_;refine jqs ?_;refine jqs ?_;refine jqs ?_;refine jqs ?_;refine jqs ?_;refine jqs ?_;refine jqs ?_;refine jq jrpT ?_;refine jN ?_;refine jcT ?_;refine jcr ?_;refine jq jrm ?_;refine jN ?_
  refine jR (jtr (jrt (hv:=?_)))
  refine CEnt.bool ?_
  refine (rightA_not ?_).symm
  omega
 refine jq jrm ?_;refine jq (jri (i:=0)) ?_;refine jq jrdr ?_;refine jq jrc ?_;refine jq jrpF ?_;refine jq jrm ?_;refine jqsp 25 (fun g11_4=>?_) fun g11_4=>?_
 ·refine jqs ?_;refine jqs ?_;refine jqs ?_;refine jqs ?_;refine jqs ?_;refine jqs ?_;refine jqs ?_;refine jqs ?_;refine jqs ?_;refine jqs ?_;refine jq jrpT ?_;refine jN ?_;refine jcT ?_;refine jcr ?_;refine jq jrm ?_;refine jN ?_
  refine jR (jtr (jrt (hv:=?_)))
  refine CEnt.bool ?_
  refine (rightA_not ?_).symm
  omega
 refine jq jrm ?_;refine jq (jri (i:=0)) ?_;refine jq jrdr ?_;refine jq jrc ?_;refine jq jrm ?_;refine jqsp 30 (fun g11_5=>?_) fun g11_5=>?_
 rotate_left
 ·refine jqs ?_;refine jqs ?_;refine jqs ?_;refine jqs ?_;refine jq jrpF ?_;refine jq jrpF ?_;refine jN ?_;refine jcF ?_
  refine jS (jtn ?_)
  refine jcs ?_;refine jcr ?_;refine jq jrm ?_;refine jq jrl ?_;refine jq jrm ?_;refine jN ?_;refine jB ?_;refine l_loop (α:=Nat) [2,4,39,40,41,42,43,44,45,46,47,48,49] (fun i=>[(39,.c (.int .i64 (i:Nat)))]) (fun _=>[]) (fun i=>i≤l.length∧(l.take i).all inR=true) (fun i=>l.length-i) (0) ?_ (fun _=>rfl) ?_ ?_ ?_
  ·exact ⟨Nat.zero_le _,rfl⟩
  ·(repeat (first|exact EntE.nil|refine EntE.cons cZ ?_|refine EntE.cons (CEnt.int (by omega)) ?_))
  ·(repeat (first|exact HEnt.nil|refine HEnt.same ?_|refine HEnt.blk rfl (fun j hj=>by rcases j with _|_|_|_|_|_|_|_|j <;> first|exact cZ|exact CEnt.int (by omega)|omega) ?_))
  ·rintro i ⟨(hi:i≤l.length),hall⟩
   refine jcr ?_;refine jq jrc ?_;refine jN ?_;refine jcs ?_;refine jcc (fun h14=>?_) fun h14=>?_
   rotate_left
   ·refine jX (jte (jte (jbx (jtn ?_))))
    refine jcr ?_;refine jq jrm ?_;refine jN ?_
    refine jR (jrt (hv:=?_))
    refine CEnt.bool ?_
    rw [show i=l.length by omega,List.take_length] at hall
    exact (rightA_yes (by omega) (by omega) (by omega) (by omega) hall).symm
   refine jS (jtn ?_)
   refine jcs ?_;refine jB ?_;refine jcr ?_;refine jq jri ?_;refine jq jrdr ?_;refine jq jrm ?_;refine jN ?_;refine jcr ?_;refine jq jrm ?_;refine jq jrc ?_;refine jq jrm ?_;refine jqsp 45 (fun g15=>?_) fun g15=>?_
   ·refine jqs ?_;refine jqs ?_;refine jq jrpT ?_;refine jN ?_;refine jcT ?_;refine jcr ?_;refine jq jrm ?_;refine jN ?_
    refine jR (jbr (jtr (jtr (jbr (jtr (jrt (hv:=?_)))))))
    refine CEnt.bool ?_
    exact (rightA_not (.inr (.inr (.inr (.inr (.inr (all_false (k:=i) 0 (by omega) (inR_no (by omega))))))))).symm
   refine jq jrm ?_;refine jq jrc ?_;refine jq jrpF ?_;refine jN ?_;refine jcc (fun h15=>?_) fun h15=>?_
   ·refine jcr ?_;refine jq jrm ?_;refine jN ?_
    refine jR (jbr (jtr (jtr (jbr (jtr (jrt (hv:=?_)))))))
    refine CEnt.bool ?_
    exact (rightA_not (.inr (.inr (.inr (.inr (.inr (all_false (k:=i) 0 (by omega) (inR_no (by omega))))))))).symm
   refine jS (jbn (jtn ?_))
   refine jcg ?_;refine jq jra ?_;refine jq jrm ?_;refine jN ?_;refine jtn ?_;refine jlend (i+1) ?_ ?_
   ·exact ⟨by omega,take_allO 0 (by omega) hall (inR_yes (by omega) (by omega))⟩
   ·show l.length-(i+1)<l.length-i;omega
 refine jq jrm ?_;refine jq (jri (i:=1)) ?_;refine jq jrdr ?_;refine jq jrc ?_;refine jq jrpT ?_;refine jq jrpF ?_;refine jN ?_;refine jcc (fun h11=>?_) fun h11=>?_
 ·refine jcr ?_;refine jq jrm ?_;refine jN ?_
  refine jR (jtr (jrt (hv:=?_)))
  refine CEnt.bool ?_
  refine (rightA_not ?_).symm
  omega
 refine jS (jtn ?_)
 refine jcs ?_;refine jcr ?_;refine jq jrm ?_;refine jq jrl ?_;refine jq jrm ?_;refine jN ?_;refine jB ?_;refine l_loop (α:=Nat) [2,4,39,40,41,42,43,44,45,46,47,48,49] (fun i=>[(39,.c (.int .i64 (i:Nat)))]) (fun _=>[]) (fun i=>i≤l.length∧(l.take i).all inR=true) (fun i=>l.length-i) (0) ?_ (fun _=>rfl) ?_ ?_ ?_
 ·exact ⟨Nat.zero_le _,rfl⟩
 ·(repeat (first|exact EntE.nil|refine EntE.cons cZ ?_|refine EntE.cons (CEnt.int (by omega)) ?_))
 ·(repeat (first|exact HEnt.nil|refine HEnt.same ?_|refine HEnt.blk rfl (fun j hj=>by rcases j with _|_|_|_|_|_|_|_|j <;> first|exact cZ|exact CEnt.int (by omega)|omega) ?_))
 ·rintro i ⟨(hi:i≤l.length),hall⟩
  refine jcr ?_;refine jq jrc ?_;refine jN ?_;refine jcs ?_;refine jcc (fun h14=>?_) fun h14=>?_
  rotate_left
  ·refine jX (jte (jte (jbx (jtn ?_))))
   refine jcr ?_;refine jq jrm ?_;refine jN ?_
   refine jR (jrt (hv:=?_))
   refine CEnt.bool ?_
   rw [show i=l.length by omega,List.take_length] at hall
   exact (rightA_yes (by omega) (by omega) (by omega) (by omega) hall).symm
  refine jS (jtn ?_)
  refine jcs ?_;refine jB ?_;refine jcr ?_;refine jq jri ?_;refine jq jrdr ?_;refine jq jrm ?_;refine jN ?_;refine jcr ?_;refine jq jrm ?_;refine jq jrc ?_;refine jq jrm ?_;refine jqsp 45 (fun g15=>?_) fun g15=>?_
  ·refine jqs ?_;refine jqs ?_;refine jq jrpT ?_;refine jN ?_;refine jcT ?_;refine jcr ?_;refine jq jrm ?_;refine jN ?_
   refine jR (jbr (jtr (jtr (jbr (jtr (jrt (hv:=?_)))))))
   refine CEnt.bool ?_
   exact (rightA_not (.inr (.inr (.inr (.inr (.inr (all_false (k:=i) 0 (by omega) (inR_no (by omega))))))))).symm
  refine jq jrm ?_;refine jq jrc ?_;refine jq jrpF ?_;refine jN ?_;refine jcc (fun h15=>?_) fun h15=>?_
  ·refine jcr ?_;refine jq jrm ?_;refine jN ?_
   refine jR (jbr (jtr (jtr (jbr (jtr (jrt (hv:=?_)))))))
   refine CEnt.bool ?_
   exact (rightA_not (.inr (.inr (.inr (.inr (.inr (all_false (k:=i) 0 (by omega) (inR_no (by omega))))))))).symm
  refine jS (jbn (jtn ?_))
  refine jcg ?_;refine jq jra ?_;refine jq jrm ?_;refine jN ?_;refine jtn ?_;refine jlend (i+1) ?_ ?_
  ·exact ⟨by omega,take_allO 0 (by omega) hall (inR_yes (by omega) (by omega))⟩
  ·show l.length-(i+1)<l.length-i;omega

theorem split_stepO {c:UInt8} {s:List UInt8} {a i:Nat} (hai:a≤i) (hi:i<s.length) (hno:c ∉ (s.take i).drop a) (hc:s.getD i 0=c):splitC c (s.drop a)=(s.take i).drop a::splitC c (s.drop (i+1)):=by
 have e:s.drop a=(s.take i).drop a++c::s.drop (i+1):=by
  have h1:s=s.take i++s.drop i:=(List.take_append_drop i s).symm
  have h2:s.drop i=c::s.drop (i+1):=by
   rw [List.drop_eq_getElem_cons hi,← hc]
   simp [List.getD,hi]
  conv=>lhs;rw [h1,List.drop_append_of_le_length (by rw [List.length_take];omega),h2]
 rw [e,splitC_at _ hno]
theorem notin_step {c:UInt8} {s:List UInt8} {a i:Nat} (hai:a≤i) (hi:i<s.length) (hno:c ∉ (s.take i).drop a) (hc:s.getD i 0≠c):c ∉ (s.take (i+1)).drop a:=by
 rw [take_get 0 hi,List.drop_append_of_le_length (by rw [List.length_take];omega)]
 intro h
 rcases List.mem_append.1 h with h|h
 ·exact hno h
 ·exact hc (List.mem_singleton.1 h).symm
theorem u8_eqO {c d:UInt8} (h:(c.toNat:Int)=d.toNat):c=d:=UInt8.toNat_inj.1 (by omega)
theorem rsplit_ac {gs:List Nat} (s:List UInt8) (hs:s.length≤1000000000):ACp gs Tryz.prog 122 [strC s] (ssC (splitC 46 s)):=by
 have hpl:=split_len 46 s
 refine ac_of 32 Tryz.func122 rfl rfl rfl (fun al w0 F0 St0=>?_)
 refine jcr ?_;refine jq jrm ?_;refine jN ?_;refine jcr ?_
 refine jqe (jebl 0 1 zr9 fun p1=>?_)
 refine jq jrm ?_;refine jq jrm ?_;refine jN ?_;refine jcs ?_;refine jcr ?_;refine jq jrm ?_;refine jN ?_;refine jB ?_;refine l_loop (α:=Nat×Nat×List (List UInt8)×Option Nat) [3,4,5,7,8,9,10,11,12,13,14,15,16,17,18,19,20,21,22,23,24,25] (fun (i,a,X,g)=>[(5,.c (.int .i64 (i:Nat))),(4,.c (.int .i64 (a:Nat))),(3,.os 0 g 0 X.length 1)]) (fun (i,a,X,g)=>[(g,.blk (X.length * 1) (ssF X))]) (fun (i,a,X,g)=>i≤s.length∧a≤i∧X.length≤i∧splitC 46 s=X++splitC 46 (s.drop a)∧(46:UInt8) ∉ (s.take i).drop a) (fun (i,a,X,g)=>s.length-i) ((0,0,[],p1)) ?_ (fun _=>rfl) ?_ ?_ ?_
 ·exact ⟨Nat.zero_le _,Nat.le_refl _,Nat.le_refl _,by simp,by simp⟩
 ·exact .cons cZ (.cons cZ (.cons cZ .nil))
 ·exact .blk rfl (fun j hj=>absurd hj (Nat.not_lt_zero j)) .nil
 ·rintro ⟨i,a,X,g⟩ ⟨(hi:i≤s.length),(ha:a≤i),(hX:X.length≤i),hsp,hno⟩
  refine jcs ?_;refine jcr ?_;refine jq jrm ?_;refine jq jrm ?_;refine jq jrls ?_;refine jq jrc ?_;refine jN ?_;refine jcc (fun h25=>?_) fun h25=>?_
  rotate_left
  ·refine jX (jte (jte (jbx (jtn ?_))))
   refine jcr ?_;refine jq jrm ?_;refine jq jrm ?_;refine jq jrm ?_;refine jq (rd_sliceLF rfl rfl Tryz.underlying9 rfl (show _=((a:Nat):Int) by omega) (by (omega))) ?_
   refine jqe (jebl 1 1 zr9 fun p2=>?_)
   refine jqm (m_appendC (rowC_ss) (l2:=[s.drop a]) rfl rfl rfl rfl (by exact Nat.le_refl _) (fun _ _=>cZ) (src_os rfl (.inl rfl) (by decide)) rfl (fun j hj=>by rcases j with _|j <;> first|exact cZ|exact CEnt.int (by omega)|(exfalso;simp at hj <;> omega)) Tryz.underlying88 nu88 sz9 zr9 by9 rfl (by (simp;omega)) (by (simp;omega)) (leaf_flk rfl rfl) rfl rfl rfl (fun p3=>?_))
   refine jq jrm ?_;refine jN ?_
   have hi2:i=s.length:=by omega
   rw [hi2,List.take_length] at hno
   rw [splitC_none hno] at hsp
   refine jE (freeze 0 rfl) ?_;refine jE (thaw 2 (fun b _=>strC ((X++[s.drop a]).getD b [])) rfl rfl (by omega) ss_thaw) ?_
   refine jR (jrt (hv:=?_))
   rw [hsp]
   exact cZ
  refine jS (jtn ?_)
  refine jcs ?_;refine jB ?_;refine jcr ?_;refine jq jrm ?_;refine jq jrm ?_;refine jq jrix ?_;refine jq jrc ?_;refine jN ?_;refine jcc (fun h26=>?_) fun h26=>?_
  rotate_left
  ·refine jS (jbn (jtn ?_))
   refine jcg ?_;refine jq jrm ?_;refine jq jra ?_;refine jq jrm ?_;refine jN ?_;refine jtn ?_
   refine jlend ((i+1,a,X,g)) ?_ ?_ (h5:=?_) (h7:=?_)
   ·exact ⟨by omega,by omega,by omega,hsp,notin_step ha (by omega) hno (fun e=>h26 (by rw [e];rfl))⟩
   ·show s.length-(i+1)<s.length-i;omega
   ·exact .cons (CEnt.int (by omega)) (.cons cZ (.cons cZ .nil))
   ·exact .same .nil
  refine jcr ?_;refine jq jrm ?_;refine jq jrm ?_;refine jq jrm ?_;refine jq jrm ?_;refine jq (rd_sliceL rfl rfl Tryz.underlying9 (bd_some rfl (show _=((a:Nat):Int) by omega)) (bd_some rfl (show _=((i:Nat):Int) by omega)) (by (omega)) (by (omega))) ?_
  refine jqe (jebl 1 1 zr9 fun p2=>?_)
  refine jqm (m_appendC (rowC_ss) (l2:=[(s.take i).drop a]) rfl rfl rfl rfl (by exact Nat.le_refl _) (fun _ _=>cZ) (src_os rfl (.inl rfl) (by decide)) rfl (fun j hj=>by rcases j with _|j <;> first|exact cZ|exact CEnt.int (by omega)|(exfalso;simp at hj <;> omega)) Tryz.underlying88 nu88 sz9 zr9 by9 rfl (by (simp;omega)) (by (simp;omega)) (leaf_flk rfl rfl) rfl rfl rfl (fun p3=>?_))
  refine jq jrm ?_;refine jN ?_;refine jcg ?_;refine jq jrm ?_;refine jq jra ?_;refine jq jrm ?_;refine jN ?_
  refine jbn (jtn ?_)
  refine jcg ?_;refine jq jrm ?_;refine jq jra ?_;refine jq jrm ?_;refine jN ?_;refine jtn ?_
  refine jlend ((i+1,i+1,X++[(s.take i).drop a],p3)) ?_ ?_ (h5:=?_) (h7:=?_)
  ·exact ⟨by omega,by omega,by simp;omega,by rw [hsp,split_stepO ha (by omega) hno (u8_eqO (d:=46) h26)];simp,by rw [List.drop_eq_nil_of_le (by simp only [List.length_take];omega)];exact List.not_mem_nil⟩
  ·show s.length-(i+1)<s.length-i;omega
  ·exact .cons (CEnt.int (by omega)) (.cons (CEnt.int (by omega)) (.cons cZ .nil))
  ·exact .same .nil
set_option maxHeartbeats 1000000 in
theorem rparse_ac {gs:List Nat} (s:List UInt8) (hs:s.length≤1000000000):ACp gs Tryz.prog 91 [strC s] (.tup 2 (fl [isC (parseM s).1,.c (.int .i64 ((parseM s).2:Nat))])):=by
 have hpl:=split_len 46 s
 refine ac_of 38 Tryz.func91 rfl rfl rfl (fun al w0 F0 St0=>?_)
 refine jcr ?_;refine jq jrm ?_;refine jq jrm ?_;refine jN ?_;refine jcr ?_
 refine jqe (jebl 0 1 zr3 fun p1=>?_)
 refine jq jrm ?_;refine jN ?_;refine jcs ?_;refine jcr ?_;refine jq jrm ?_
 refine jqe (jecP (rsplit_ac s hs) ?_)
 refine jq jrl ?_;refine jq jrm ?_;refine jN ?_;refine jB ?_;refine l_loop (α:=Nat×List Int×Option Nat) [2,3,4,6,7,8,13,14,15,16,17,18,19,20,21,22,23,24,25,26,27,28,29,30,31,32,33] (fun (k,X,g)=>[(13,.c (.int .i64 (k:Nat))),(4,.os 0 g 0 X.length 1)]) (fun (k,X,g)=>[(g,.blk X.length (inF X))]) (fun (k,X,g)=>k≤(splitC 46 s).length∧X=((splitC 46 s).take k).map valP∧((splitC 46 s).take k).all okP=true) (fun (k,X,g)=>(splitC 46 s).length-k) ((0,[],p1)) ?_ (fun _=>rfl) ?_ ?_ ?_
 ·exact ⟨Nat.zero_le _,rfl,rfl⟩
 ·exact .cons cZ (.cons cZ .nil)
 ·exact .blk rfl (fun j hj=>absurd hj (Nat.not_lt_zero j)) .nil
 ·rintro ⟨k,X,g⟩ ⟨(hk:k≤_),hX,hall⟩
  have hXl:X.length≤k:=by rw [hX,List.length_map,List.length_take];omega
  refine jcr ?_;refine jq jrc ?_;refine jN ?_;refine jcs ?_;refine jcc (fun h37=>?_) fun h37=>?_
  rotate_left
  ·refine jX (jte (jte (jbx (jtn ?_))))
   refine jcs ?_
   have hk2:k=(splitC 46 s).length:=by omega
   rw [hk2,List.take_length] at hX hall
   refine jE (freeze 0 rfl) ?_;refine jE (thawIL 4 X rfl rfl rfl (Nat.ble_eq_true_of_le (Nat.le_refl _)) (fun j hj=>cZ)) ?_;refine jcr ?_;refine jq jrm ?_
   refine jqe (jecP (rright5_ac X) ?_)
   refine jq jrn ?_;refine jN ?_;refine jcc (fun h44=>?_) fun h44=>?_
   ·refine jcr ?_;refine jq jrm ?_;refine jq jrm ?_;refine jN ?_
    refine jR (jtr (jrt (hv:=?_)))
    have hb:=parse_wrong hall (by rw [← hX];simpa using h44)
    exact CEnt.tup2 (CEnt.nilS' (by rw [hb.1];rfl)) (CEnt.int (by rw [hb.2];rfl))
   refine jS (jtn ?_)
   refine jcr ?_;refine jq jrm ?_;refine jq jrm ?_;refine jq jrm ?_;refine jN ?_
   refine jR (jrt (hv:=?_))
   have hb:=parse_good hall (by rw [← hX];simpa using h44)
   exact CEnt.tup2 (show CEnt (isC X) _ from CEnt.of_eq (by rw [hb.1,hX])) (CEnt.int (by rw [hb.2];rfl))
  refine jS (jtn ?_)
  refine jcs ?_;refine jB ?_;refine jcr ?_;refine jq jri ?_;refine jq jrdr ?_;refine jq jrm ?_;refine jN ?_;refine jcr ?_;refine jq jrm ?_
  refine jqe (jecP (rfig_ac ((splitC 46 s).getD k [])) ?_)
  refine jq jrm ?_;refine jq jrx ?_;refine jq jrx ?_;refine jq jrm ?_;refine jq jrm ?_;refine jN ?_;refine jcs ?_;refine jcr ?_;refine jq jrm ?_;refine jq jrn ?_;refine jq jrm ?_;refine jqsp 24 (fun g39=>?_) fun g39=>?_
  ·refine jqs ?_;refine jqs ?_;refine jqs ?_;refine jq jrpT ?_;refine jN ?_;refine jcT ?_;refine jcr ?_;refine jq jrm ?_;refine jq jrm ?_;refine jN ?_
   refine jR (jtr (jbr (jtr (jtr (jbr (jtr (jrt (hv:=?_))))))))
   have hb:=parse_bad (s:=s) (all_false (k:=k) [] (by omega) (by exact okP_bad (.inl (by simpa using g39))))
   exact CEnt.tup2 (CEnt.nilS' (by rw [hb.1];rfl)) (CEnt.int (by rw [hb.2];rfl))
  refine jq jrm ?_;refine jq jrls ?_;refine jq jrc ?_;refine jq jrpF ?_;refine jN ?_;refine jcc (fun h39=>?_) fun h39=>?_
  ·refine jcr ?_;refine jq jrm ?_;refine jq jrm ?_;refine jN ?_
   refine jR (jtr (jbr (jtr (jtr (jbr (jtr (jrt (hv:=?_))))))))
   have hb:=parse_bad (s:=s) (all_false (k:=k) [] (by omega) (by exact okP_bad (.inr (by omega))))
   exact CEnt.tup2 (CEnt.nilS' (by rw [hb.1];rfl)) (CEnt.int (by rw [hb.2];rfl))
  refine jS (jtn ?_)
  refine jcg ?_;refine jq jrm ?_;refine jq jrm ?_
  refine jqe (jebl 1 1 zr3 fun p2=>?_)
  refine jqm (m_appendC rowC_in (l2:=[valP ((splitC 46 s).getD k [])]) rfl rfl rfl rfl (by exact Nat.le_of_eq (Nat.mul_one _)) (fun _ _=>cZ) (src_os rfl (.inl rfl) (by decide)) rfl (hh_ints (.cons (CEnt.int ((okP_good (by simpa using g39) h39).2)) .nil)) Tryz.underlying51 nu51 sz3 zr3 by3 rfl (by (simp;omega)) (by (simp;omega)) (leaf_flk rfl rfl) rfl rfl (Nat.mul_one _) (fun p3=>?_))
  refine jq jrm ?_;refine jN ?_
  refine jbn (jtn ?_)
  refine jcg ?_;refine jq jra ?_;refine jq jrm ?_;refine jN ?_;refine jtn ?_
  refine jlend ((k+1,X++[valP ((splitC 46 s).getD k [])],p3)) ?_ ?_ (h5:=?_) (h7:=?_)
  ·exact ⟨by omega,by rw [hX,take_get [] (by omega),List.map_append];rfl,take_allO [] (by omega) hall (okP_good (by simpa using g39) h39).1⟩
  ·show (splitC 46 s).length-(k+1)<(splitC 46 s).length-k;omega
  ·exact .cons (CEnt.int (by omega)) (.cons cZ .nil)
  ·exact .same .nil
end
section
variable {gs:List Nat} [Ok9 gs]
open Go.RowKit

theorem u8idx_ac {gs:List Nat} {g:FuncId} {n:Nat} {fv:Nat→CV} (hc:calleeB Tryz.prog g=true) (l:List (UInt8)) (p:(UInt8)→Bool) (hp:∀ r,ACp gs Tryz.prog g ((fun z:UInt8=>.c (.int .u8 (z.toNat:Nat))) r::(List.range n).map fv) (.c (.bool (p r)))) :
  ACp gs Tryz.prog 181 [bsC l,.fn g n fv] (.c (.int .i64 (firstI p l))):=by
 refine ac_len 0 rfl fun hlen=>?_
 refine ac_of 19 Tryz.func181 rfl rfl rfl (fun al w0 F0 St0=>?_)
 refine jcr ?_;refine jq jrm ?_;refine jN ?_;refine jcs ?_;refine jcr ?_;refine jq jrm ?_;refine jq jrl ?_;refine jq jrm ?_;refine jN ?_;refine jB ?_;refine l_loop (α:=Nat) [4,5,8,9,10,11,12,13,14,15,16,17,18] (fun i=>[(8,.c (.int .i64 (i:Nat)))]) (fun _=>[]) (fun i=>i≤l.length∧∀ j (hj:j<l.length),j<i→p l[j]=false) (fun i=>l.length-i) (0) ?_ (fun _=>rfl) ?_ ?_ ?_
 ·exact ⟨by omega,fun j _ hj=>absurd hj (Nat.not_lt_zero j)⟩
 ·(repeat (first|exact EntE.nil|refine EntE.cons cZ ?_|refine EntE.cons (CEnt.int (by omega)) ?_))
 ·(repeat (first|exact HEnt.nil|refine HEnt.same ?_|refine HEnt.blk rfl (fun j hj=>by rcases j with _|_|_|_|_|_|_|_|j <;> first|exact cZ|exact CEnt.int (by omega)|omega) ?_))
 ·rintro i ⟨hi,he⟩
  refine jcr ?_;refine jq jrc ?_;refine jN ?_;refine jcs ?_;refine jcc (fun h108=>?_) fun h108=>?_
  rotate_left
  ·refine jX (jte (jte (jbx (jtn ?_))))
   refine jcr ?_;refine jq jrm ?_;refine jN ?_
   refine jR (jrt (hv:=?_))
   refine CEnt.int ?_
   exact (firstI_none fun j hj=>he j hj (by omega)).symm
  refine jS (jtn ?_)
  refine jcs ?_;refine jB ?_;refine jcr ?_;refine jq jrm ?_;refine jq jrm ?_;refine jN ?_;refine jcr ?_;refine jq jrm ?_;refine jq jrm ?_;refine jq jrm ?_;refine jq jri ?_;refine jq jrdr ?_
  refine jqe (e_callV rfl rfl (by assumption) (hp (l.getD i 0)) (entL_fn cZ _) rfl rfl ?_)
  rintro _ _ ⟨rfl,rfl⟩
  refine jN ?_;refine jcc (fun h109=>?_) fun h109=>?_
  ·refine jcr ?_;refine jq jrm ?_;refine jq jrm ?_;refine jN ?_
   refine jR (jbr (jtr (jtr (jbr (jtr (jrt (hv:=?_)))))))
   refine CEnt.int ?_
   have hlt:i<l.length:=by omega
   exact (firstI_at i hlt (by simpa [List.getD,hlt] using h109) (fun j hj=>he j (by omega) hj)).symm
  refine jS (jbn (jtn ?_))
  refine jcg ?_;refine jq jra ?_;refine jq jrm ?_;refine jN ?_;refine jtn ?_;refine jlend (i+1) ?_ ?_
  ·exact ⟨by omega,fun j hj hj1=>by
    by_cases e:j=i
    ·subst e
     simpa [List.getD,hj] using h109
    ·exact he j hj (by omega)⟩
  ·omega
theorem low_ac {gs:List Nat} (c:UInt8):ACp gs Tryz.prog 182 (.c (.int .u8 (c.toNat:Nat))::(List.range 0).map fun _=>.top) (.c (.bool (decide (c.toNat<128)))):=by
 refine ac_of 5 Tryz.func182 rfl rfl rfl (fun al w0 F0 St0=>?_)
 refine jcr ?_;refine jq jrm ?_;refine jN ?_;refine jcr ?_;refine jq jrm ?_;refine jq jrc ?_;refine jq jrm ?_;refine jN ?_
 refine jR (jrt (hv:=?_))
 refine CEnt.bool ?_
 (simp_all;omega)
def runsF (f:FuncId) (g:Option Nat):CV:=.fn f 1 (fl [.op 0 g 0])
theorem runs_ac {gs:List Nat} (b:List UInt8):AC gs Tryz.prog 160 [] [bsC b] (fun r H'=>∃ g,r=runsF 180 g∧H'=[(g,.blk 1 (fun _=>bsC b))]):=by
 refine ac_of 4 Tryz.func160 rfl rfl rfl (fun al w0 F0 St0=>?_)
 refine jcr ?_
 refine jqe (jebx 1 fun p1=>?_)
 refine jq jrm ?_;refine jN ?_;refine jE (blk_ent 0 (m:=1) (F:=fun _=>bsC b) rfl (Nat.le_refl _) (fun _=>rfl) (fun j hj=>by obtain rfl:j=0:=(by omega);exact cZ)) ?_;refine jcr ?_;refine jq jrmf ?_;refine jq jrm ?_;refine jN ?_;refine jR ?_
 exact end_own (.inl rfl) (runsF 180 p1) _ [0] (by decide) rfl ((res_1 rfl (arv_tmp rfl)).ent (by refine CEnt.fn1 ?_;exact CEnt.opI)) ⟨_,rfl,rfl⟩
theorem runs_drop {b rest:List UInt8} {k:Nat} (h:(runsL b).drop k=runsL rest) (hr:rest≠[]):k<(runsL b).length∧(runsL b).getD k []=rest.take (runLen rest)∧(runsL b).drop (k+1)=runsL (rest.drop (runLen rest)):=by
 rw [runsL_cons hr] at h
 have h2:=drop_getD (d:=[]) h
 refine ⟨?_,h2.1,h2.2⟩
 apply Classical.byContradiction
 intro hn
 rw [List.drop_eq_nil_of_le (by omega)] at h
 cases h
theorem runs_all {b rest:List UInt8} {k:Nat} (h:(runsL b).drop k=runsL rest) (hr:rest=[]) (hk:k≤(runsL b).length):k=(runsL b).length:=by
 subst hr
 rw [runsL_nil] at h
 have:=List.drop_eq_nil_iff.1 h
 omega
theorem runs_iter {gs:List Nat} (b:List UInt8) (g:Option Nat) (hb:b.length≤100000000000):IterC gs Tryz.prog 180 [(g,.blk 1 (fun _=>bsC b))] ((List.range 1).map (fl [.op 0 g 0])) (runsL b).length (fun k=>[bsC ((runsL b).getD k [])]):=fun l J Jx hY=>by
 refine ac_ofY true 23 Tryz.func180 rfl rfl rfl (fun al w0 F0 St0=>?_)
 refine jB ?_;refine l_loop (α:=Nat×List UInt8) [3,4,5,6,7,8,9,10,11,12,13,14,15,16,17,18,19,20,21,22] (fun _=>[]) (fun (k,rest)=>[(g,.blk 1 (fun _=>bsC rest)),(some l,.obj (J k))]) (fun (k,rest)=>(runsL b).drop k=runsL rest∧rest.length≤b.length∧k≤(runsL b).length) (fun (k,rest)=>rest.length) ((0,b)) ?_ (fun _=>rfl) ?_ ?_ ?_
 ·exact ⟨rfl,Nat.le_refl _,Nat.zero_le _⟩
 ·exact .nil
 ·exact .same (.same .nil)
 ·rintro ⟨k,rest⟩ ⟨hk,hlen,hkn⟩
  refine jcs ?_;refine jcr ?_;refine jqo jrdo ?_;refine jq jrl ?_;refine jq jrc ?_;refine jN ?_;refine jcc (fun h83=>?_) fun h83=>?_
  rotate_left
  ·refine jX (jte (jte (jbx ?_)))
   exact end_own (.inr rfl) _ _ [1] (by decide) rfl (res_0 rfl) (.inl (by rw [← runs_all hk (List.length_eq_zero_iff.1 (by omega)) hkn];rfl))
  refine jS (jtn ?_)
  refine jB ?_
  have hne:rest≠[]:=List.length_pos_iff.1 (by omega)
  have hk2:=runs_drop hk hne
  have hrl:=low_run rest (fun c=>decide (c.toNat<128)) (fun _=>rfl)
  have hrp:=runLen_pos hne
  have hrn:=runLen_le rest
  have hfb:=firstI_bd (fun c:UInt8=>decide (c.toNat<128)) rest
  refine jcr ?_;refine jqo jrdo ?_
  refine jqe (jecP (u8idx_ac (n:=0) (fv:=fun _=>.top) (by kernel_rfl) rest (fun c=>decide (c.toNat<128)) low_ac) ?_ (ho:=rfl) (he:=(.cons (se rfl cZ) (.cons (se rfl CEnt.fn0) .nil))))
  refine jq jra ?_;refine jq jrm ?_;refine jN ?_;refine code_join (α:=Unit) [3,10,11,12,13] (fun _=>[(3,.c (.int .i64 (runLen rest:Nat)))]) (fun _=>[(g,.blk 1 (fun _=>bsC rest)),(some l,.obj (J k))]) (fun _=>True) (fun _=>rfl) ?_ ?_
  ·refine jcr ?_;refine jq jrm ?_;refine jq jrc ?_;refine jN ?_;refine jcc (fun h85=>?_) fun h85=>?_
   rotate_left
   ·refine jS (jtn ?_)
    refine jjend (()) ?_ (h5:=?_) (h7:=?_)
    ·trivial
    ·exact .cons (CEnt.int (by omega)) .nil
    ·exact .same (.same .nil)
   refine jcg ?_;refine jqo jrdo ?_;refine jq jrl ?_;refine jq jrm ?_;refine jN ?_;refine jtn ?_
   refine jjend (()) ?_ (h5:=?_) (h7:=?_)
   ·trivial
   ·exact .cons (CEnt.int (by omega)) .nil
   ·exact .same (.same .nil)
  ·rintro u _
   refine jcs ?_;refine jcr ?_;refine jq jrm ?_;refine jqo jrdo ?_;refine jq jrm ?_;refine jq (jrst (hz2:=(show _=(((runLen rest):Nat):Int) by omega))) ?_
   refine seq_mdI (wanted_none rfl) rfl (m_callY (i:=1) rfl rfl rfl (hY k hk2.1) (.cons (se rfl (CEnt.bs hk2.2.1.symm)) .nil) rfl rfl ?_)
   rintro _ _ (⟨rfl,rfl⟩|⟨rfl,rfl⟩)
   ·refine ⟨_,_,rfl,cZ,?_⟩
    refine jq jrn ?_;refine jN ?_;refine jcF ?_
    refine jS (jtn ?_)
    refine jcg ?_;refine jqo jrdo ?_;refine jq jrm ?_;refine jq (jrsf (hz1:=(show _=(((runLen rest):Nat):Int) by omega))) ?_
    refine jqm (jmst 1 ?_)
    refine jN ?_
    refine jbn (jtn ?_)
    refine jlend ((k+1,rest.drop (runLen rest))) ?_ ?_ (h5:=?_) (h7:=?_)
    ·exact ⟨hk2.2.2,by rw [List.length_drop];omega,by omega⟩
    ·show (rest.drop (runLen rest)).length<rest.length;rw [List.length_drop];omega
    ·exact .nil
    ·exact .blk rfl (fun j hj=>by obtain rfl:j=0:=(by omega);exact cZ) (.same .nil)
   ·refine ⟨_,_,rfl,cZ,?_⟩
    refine jq jrn ?_;refine jN ?_;refine jcT ?_
    refine jR (jtr (jbr (jtr (jbr ?_))))
    exact end_own (.inl rfl) _ _ [1] (by decide) rfl (res_0 rfl) (.inr rfl)

theorem ser_take {l:List Int} {i:Nat} (h:i<l.length):((l.take (i+1)).map fun n=>dec n.toNat)=((l.take i).map fun n=>dec n.toNat)++[dec (l.getD i 0).toNat]:=by
 rw [take_get 0 h,List.map_append];rfl
theorem otext_ac (l:List Int):ACp gs Tryz.prog 162 [isC l] (.tup 2 (fl [strC (textM l).1,.err (textM l).2])):=by
 refine ac_len 0 rfl fun hlen=>?_
 refine ac_of 25 Tryz.func162 rfl rfl rfl (fun al w0 F0 St0=>?_)
 refine jcr ?_;refine jq jrm ?_;refine jq jrm ?_;refine jN ?_;refine jcs ?_;refine jcr ?_;refine jq jrm ?_
 refine jqe (jecP (oright_ac l) ?_)
 refine jq jrn ?_;refine jN ?_;refine jcc (fun h47=>?_) fun h47=>?_
 ·refine jcs ?_;refine jcd (.rd 0 (.rd 1 (.rd 2 .done))) ?_;refine jyq (jrde 0) ?_;refine jyq jrm ?_;refine jyq jrm ?_;refine jyd ?_;refine jtn ?_
  refine jR (jtr (jrt (hv:=?_)))
  have hb:textM l=([],1):=by unfold textM;rw [if_neg (by simp_all)]
  exact CEnt.tup2 (CEnt.strL (by rw [hb])) (CEnt.errN (by rw [hb]))
 refine jS (jtn ?_)
 refine jcr ?_;refine jq jrm ?_;refine jN ?_;refine jcs ?_;refine jE (ent_none (ssF [])) ?_;refine jcr ?_;refine jq jrm ?_;refine jq jrl ?_;refine jq jrm ?_;refine jN ?_;refine jB ?_;refine l_loop (α:=Nat×List (List UInt8)×Option Nat) [4,6,13,14,15,16,17,18,19,20,21,22] (fun (i,X,g)=>[(13,.c (.int .i64 (i:Nat))),(4,.os 0 g 0 X.length 1)]) (fun (i,X,g)=>[(g,.blk (X.length * 1) (ssF X))]) (fun (i,X,g)=>i≤l.length∧X=(l.take i).map fun n=>dec n.toNat) (fun (i,X,g)=>l.length-i) ((0,[],none)) ?_ (fun _=>rfl) ?_ ?_ ?_
 ·exact ⟨Nat.zero_le _,rfl⟩
 ·exact .cons cZ (.cons CEnt.nilO .nil)
 ·exact .blk rfl (fun j hj=>absurd hj (Nat.not_lt_zero j)) .nil
 ·rintro ⟨i,X,g⟩ ⟨(hi:i≤l.length),hX⟩
  have hXl:X.length=i:=by rw [hX,List.length_map,List.length_take];omega
  obtain ⟨r1,r2,r3,_,_⟩:=right_at (l:=l) (by simp_all)
  refine jE (ent_none (ssF [])) ?_;refine jcr ?_;refine jq jrc ?_;refine jN ?_;refine jcs ?_;refine jcc (fun h51=>?_) fun h51=>?_
  rotate_left
  ·refine jX (jte (jte (jbx (jtn ?_))))
   have hi2:i=l.length:=by omega
   rw [hi2,List.take_length] at hX
   have hb:textM l=(textL l,0):=by unfold textM;rw [if_pos (by simp_all)]
   obtain ⟨q1,q2,q3,_,_⟩:=right_at (l:=l) (by simp_all)
   have hjl:=join_len (c:=46) (m:=10) (ls:=X) (fun p hp=>by
    rw [hX] at hp
    obtain ⟨n,hn,rfl⟩:=List.mem_map.1 hp
    exact dec_len 9 n.toNat (by have:=q3 n hn;omega))
   have hjo:=join_lib 46 X
   refine jE (freeze 0 rfl) ?_;refine jE (thaw 4 (fun b _=>strC (X.getD b [])) rfl rfl (by omega) ss_thaw) ?_;refine jcr ?_;refine jq jrm ?_
   refine jqe (jecP (join_ac X [46] (by omega) (by rw [hjo];omega)) ?_)
   refine jq jrm ?_;refine jq jrm ?_;refine jN ?_
   refine jR (jrt (hv:=CEnt.tup2 (CEnt.strL (by rw [hb,hjo,hX];rfl)) (CEnt.nilE (by rw [hb]))))
  refine jS (jtn ?_)
  refine jcs ?_;refine jB ?_;refine jE (ent_none (ssF [])) ?_;refine jcr ?_;refine jq jri ?_;refine jq jrdr ?_;refine jq jrm ?_;refine jN ?_
  have hn:=r3 _ (getD_mem' (l:=l) (k:=i) 0 (by omega))
  refine jcg ?_;refine jq jrm ?_;refine jq jrm ?_
  refine jqe (jecP (wser_ac (l.getD i 0).toNat (by omega)) ?_ (ho:=rfl) (he:=(.cons (se rfl (CEnt.int (by omega))) .nil)))
  refine jqe (jebl 1 1 zr9 fun p1=>?_)
  refine jqm (m_appendC (rowC_ss) (l2:=[dec (l.getD i 0).toNat]) rfl rfl rfl rfl (by exact Nat.le_refl _) (fun _ _=>cZ) (src_os rfl (.inl rfl) (by decide)) rfl (fun j hj=>by rcases j with _|j <;> first|exact cZ|exact CEnt.int (by omega)|(exfalso;simp at hj <;> omega)) Tryz.underlying88 nu88 sz9 zr9 by9 rfl (by (simp;omega)) (by (simp;omega)) (leaf_flk rfl rfl) rfl rfl rfl (fun p2=>?_))
  refine jq jrm ?_;refine jN ?_
  refine jbn (jtn ?_)
  refine jE (ent_none (ssF [])) ?_;refine jcg ?_;refine jq jra ?_;refine jq jrm ?_;refine jN ?_;refine jtn ?_
  refine jlend ((i+1,X++[dec (l.getD i 0).toNat],p2)) ?_ ?_ (h5:=?_) (h7:=?_)
  ·exact ⟨by omega,by rw [hX,ser_take (by omega)]⟩
  ·show l.length-(i+1)<l.length-i;omega
  ·exact .cons (CEnt.int (by omega)) (.cons cZ .nil)
  ·exact .same .nil
end
section
variable {gs:List Nat} [Ok9 gs]
open Go.RowKit

theorem res_at {b:List UInt8} {k:Nat} (hk:k<(runsL b).length):(resB b).getD k (0,0)=numM ((runsL b).getD k []) (if k=0 then 2147483727 else 2147483647):=resL_get _ _ _ hk
theorem res_take {b:List UInt8} {k:Nat} (hk:k<(runsL b).length):(((resB b).take (k+1)).map (·.1))=(((resB b).take k).map (·.1))++[((resB b).getD k (0,0)).1]:=by
 rw [take_get (0,0) (by rw [resB_len];exact hk),List.map_append];rfl
theorem numM_bd (r:List UInt8) (most:Nat):(numM r most).1≤most:=by
 unfold numM
 split
 ·exact Nat.zero_le _
 split
 ·exact Nat.zero_le _
 split
 ·exact Nat.zero_le _
 ·show valSO r≤most;omega
theorem two_ent {a b c d:Int} (h1:a=c) (h2:b=d):∀ j,j<[c,d].length→CEnt (fl [.c (.int .i64 a),.c (.int .i64 b)] j) (inF [c,d] j):=fun j hj=>by
 rcases j with _|_|j
 ·exact CEnt.int h1
 ·exact CEnt.int h2
 ·exact absurd hj (by simp)
section
variable {b:List UInt8} {k:Nat} {X:List Int}
theorem badKE (hk:k<(runsL b).length) (h0:0<k) (herr:errL ((resB b).take k)=0) (h:(numM ((runsL b).getD k []) 2147483647).2≠0):(numM ((runsL b).getD k []) 2147483647).2=errL (resB b):=by
 have hat:=res_at hk
 rw [if_neg (by omega)] at hat
 rw [← hat] at h ⊢
 exact (errL_bad (by rw [resB_len];exact hk) herr h).symm
theorem bad0E (hk:k<(runsL b).length) (h0:k=0) (herr:errL ((resB b).take k)=0) (h:(numM ((runsL b).getD k []) 2147483727).2≠0):(numM ((runsL b).getD k []) 2147483727).2=errL (resB b):=by
 have hat:=res_at hk
 rw [if_pos h0] at hat
 rw [← hat] at h ⊢
 exact (errL_bad (by rw [resB_len];exact hk) herr h).symm
theorem badK (hk:k<(runsL b).length) (h0:0<k) (herr:errL ((resB b).take k)=0) (h:(numM ((runsL b).getD k []) 2147483647).2≠0):errL (resB b)≠0:=by
 rw [← badKE hk h0 herr h];exact h
theorem bad0 (hk:k<(runsL b).length) (h0:k=0) (herr:errL ((resB b).take k)=0) (h:(numM ((runsL b).getD k []) 2147483727).2≠0):errL (resB b)≠0:=by
 rw [← bad0E hk h0 herr h];exact h
theorem keepK (hk:k<(runsL b).length) (h0:0<k) (hX:X=arcsOf (((resB b).take k).map (·.1))) (herr:errL ((resB b).take k)=0) (h:(numM ((runsL b).getD k []) 2147483647).2=0):X++[((numM ((runsL b).getD k []) 2147483647).1:Int)]=arcsOf (((resB b).take (k+1)).map (·.1))∧errL ((resB b).take (k+1))=0:=by
 have hat:=res_at hk
 rw [if_neg (by omega)] at hat
 have hkR:k<(resB b).length:=by rw [resB_len];exact hk
 refine ⟨?_,by rw [errL_one hkR herr,hat,h]⟩
 rw [res_take hk,hat,arcs_snoc _ (fun e=>by have:=congrArg List.length e;rw [List.length_map,List.length_take,List.length_nil] at this;omega),hX]
theorem keep0 (hk:k<(runsL b).length) (h0:k=0) (herr:errL ((resB b).take k)=0) (h:(numM ((runsL b).getD k []) 2147483727).2=0):[((min ((numM ((runsL b).getD k []) 2147483727).1 / 40) 2:Nat):Int),((numM ((runsL b).getD k []) 2147483727).1:Int)-40 * ((min ((numM ((runsL b).getD k []) 2147483727).1 / 40) 2:Nat):Int)]=arcsOf (((resB b).take (k+1)).map (·.1))∧errL ((resB b).take (k+1))=0:=by
 have hat:=res_at hk
 rw [if_pos h0] at hat
 have hkR:k<(resB b).length:=by rw [resB_len];exact hk
 refine ⟨?_,by rw [errL_one hkR herr,hat,h]⟩
 rw [res_take hk,hat,h0]
 rfl
end
set_option maxHeartbeats 1000000 in
theorem oget_ac (b:List UInt8) (hb:b.length≤1000000):ACp gs Tryz.prog 143 [bsC b] (.tup 2 (fl [strC (ogetM b).1,.err (ogetM b).2])):=by
 have hrl:=runs_len b.length b (Nat.le_refl _)
 have hRl:=resB_len b
 refine ac_of 54 Tryz.func143 rfl rfl rfl (fun al w0 F0 St0=>?_)
 refine jcr ?_
 refine jqe (jeal (n:=1) zr9 rfl fun p1=>?_)
 refine jqe (jeal (n:=1) zr28 rfl fun p2=>?_)
 refine jN ?_;refine jcs ?_;refine jcr ?_;refine jq jrm ?_;refine jq jrl ?_;refine jq jrc ?_;refine jN ?_;refine jcc (fun h116=>?_) fun h116=>?_
 ·refine jcs ?_;refine jcdZ (.rd 0 (.one 1 (.one 2 .done))) ?_;refine jzq (jrde 1) ?_
  refine jzm (jmst 1 ?_)
  refine jzm (jmst 1 ?_)
  refine jzd ?_;refine jtn ?_
  refine jR (jtr (jrt (hres:=res_2 rfl javc javc) (hv:=?_)))
  have h0:ogetM b=([],2):=by rw [List.length_eq_zero_iff.1 (show b.length=0 by omega),get_nil]
  exact CEnt.tup2 (CEnt.strL (by rw [h0])) (CEnt.errN (by rw [h0]))
 refine jS (jtn ?_)
 have hne:b≠[]:=fun e=>by subst e;simp_all
 refine jcr ?_
 refine jqe (jeal (n:=1) zr51 rfl fun p3=>?_)
 refine jN ?_;refine jcs ?_;refine jcr ?_;refine jq jrm ?_
 refine jqe (jecS (runs_ac b) ?_)
 rintro _ _ ⟨gS,rfl,rfl⟩
 refine jN ?_;refine jB ?_;refine jE (blk_ent 0 (m:=1) (F:=fun _=>strC []) rfl (Nat.le_refl _) (fun _=>rfl) (fun j hj=>by obtain rfl:j=0:=(by omega);exact cZ)) ?_;refine jE (blk_ent 1 (m:=1) (F:=fun _=>.c .nilIface) rfl (Nat.le_refl _) (fun _=>rfl) (fun j hj=>by obtain rfl:j=0:=(by omega);exact cZ)) ?_;refine jE (blk_ent 2 (m:=1) (F:=fun _=>.os 3 none 0 0 1) rfl (Nat.le_refl _) (fun _=>rfl) (fun j hj=>by obtain rfl:j=0:=(by omega);exact CEnt.nilO)) ?_;refine jE (ent_none (inF [])) ?_;refine code_range (π:=List Int×Option Nat) (q:=List Int×Option Nat) ((runsL b).length) (fun k=>[bsC ((runsL b).getD k [])]) ([(gS,.blk 1 (fun _=>bsC b))]) (fun (X,ga)=>[(p1,.blk 1 (fun _=>strC [])),(p2,.blk 1 (fun _=>.c .nilIface)),(p3,.blk 1 (fun _=>.os 3 ga 0 X.length 1)),(ga,.blk X.length (inF X))]) (fun k (X,ga)=>X=arcsOf (((resB b).take k).map (·.1))∧errL ((resB b).take k)=0) (fun (X,ga)=>[(p1,.blk 1 (fun _=>strC [])),(p2,.blk 1 (fun _=>.err (errL (resB b)))),(p3,.blk 1 (fun _=>.os 3 ga 0 X.length 1)),(ga,.blk X.length (inF X))]) (fun c _=>c=.ret∧errL (resB b)≠0) (([],none)) [3,0,1,2,4] rfl rfl (by kernel_rfl) (runs_iter b gS (by omega)) (⟨rfl,rfl⟩) (by decide) rfl (fun _ _=>rfl) rfl ?_ ?_ ?_
 ·intro k hk l al2 w2 F2 S2 R0 R1
  rintro ⟨X,ga⟩ ⟨hX,herr⟩
  have hXl:=arcs_len (((resB b).take k).map (·.1))
  rw [← hX,List.length_map,List.length_take] at hXl
  have hkR:k<(resB b).length:=by omega
  have hrun:0<((runsL b).getD k []).length:=runs_pos b.length b (Nat.le_refl _) _ (getD_mem' [] hk)
  have hat:=res_at hk
  have hX0:X.length>0↔0<k:=⟨fun h=>Nat.pos_of_ne_zero fun e=>by subst e;rw [hX] at h;simp [arcsOf] at h,fun h=>by have:=hXl.2 (fun e=>by have:=congrArg List.length e;rw [List.length_map,List.length_take,List.length_nil] at this;omega);omega⟩
  refine jcg ?_;refine jq jrm ?_;refine jN ?_;refine assign_norm ?_;refine jB ?_;refine jcs ?_;refine jcr ?_;refine jqo jrdo ?_;refine jq jrl ?_;refine jq jrc ?_;refine jN ?_;refine jcc (fun h121=>?_) fun h121=>?_
  ·refine jcr ?_;refine jq jrm ?_
   refine jqe (jecP (number_ac ((runsL b).getD k []) 2147483647 hrun (by omega)) ?_)
   refine jq jrm ?_;refine jq jrx ?_;refine jq jrx ?_;refine jq jrm ?_;refine jq jrm ?_;refine jN ?_;refine jcs ?_;refine jcr ?_;refine jq jrm ?_;refine jq jre ?_;refine jN ?_;refine jcc (fun h123=>?_) fun h123=>?_
   ·refine jcr ?_;refine jq jrm ?_
    refine jqm (jmst 1 ?_)
    refine jqm (jmst 1 ?_)
    refine jN ?_
    refine jR (jtr (jtr (jbr ?_)))
    refine round_ret ((X,ga)) ?_ rfl ?_
    ·exact ⟨rfl,badK hk (by omega) herr (by assumption)⟩
    ·exact .blk rfl (fun j hj=>by obtain rfl:j=0:=(by omega);exact cZ) (.blk rfl (fun j hj=>by obtain rfl:j=0:=(by omega);exact CEnt.errN (badKE hk (by omega) herr (by assumption)).symm) (.same (.same (.same .nil))))
   refine jS (jtn ?_)
   refine jcr ?_;refine jqo jrdo ?_;refine jq jrm ?_
   refine jqe (jebl 1 1 zr3 fun p4=>?_)
   refine jqm (m_appendC rowC_in (l2:=[((numM ((runsL b).getD k []) 2147483647).1:Int)]) rfl rfl rfl rfl (by exact Nat.le_of_eq (Nat.mul_one _)) (fun _ _=>cZ) (src_os rfl (.inl rfl) (by decide)) rfl (hh_ints (.cons (CEnt.int (rfl)) .nil)) Tryz.underlying51 nu51 sz3 zr3 by3 rfl (by (simp;omega)) (by (simp;omega)) (leaf_flk rfl rfl) rfl rfl (Nat.mul_one _) (fun p5=>?_))
   refine jqm (jmst 1 ?_)
   refine jN ?_
   refine jX (jte (jbx ?_))
   refine round_norm ((X++[((numM ((runsL b).getD k []) 2147483647).1:Int)],p5)) ?_ rfl ?_
   ·exact keepK hk (by omega) hX herr (by omega)
   ·exact .same (.same (.blk rfl (fun j hj=>by obtain rfl:j=0:=(by omega);exact cZ) (.same (.same .nil))))
  refine jS (jtn ?_)
  refine jcr ?_;refine jq jrm ?_
  refine jqe (jecP (number_ac ((runsL b).getD k []) 2147483727 hrun (by omega)) ?_)
  refine jq jrm ?_;refine jq jrx ?_;refine jq jrx ?_;refine jq jrm ?_;refine jq jrm ?_;refine jN ?_;refine jcs ?_;refine jcr ?_;refine jq jrm ?_;refine jq jre ?_;refine jN ?_;refine jcc (fun h130=>?_) fun h130=>?_
  ·refine jcr ?_;refine jq jrm ?_
   refine jqm (jmst 1 ?_)
   refine jqm (jmst 1 ?_)
   refine jN ?_
   refine jR (jtr (jbr ?_))
   refine round_ret ((X,ga)) ?_ rfl ?_
   ·exact ⟨rfl,bad0 hk (by omega) herr (by assumption)⟩
   ·exact .blk rfl (fun j hj=>by obtain rfl:j=0:=(by omega);exact cZ) (.blk rfl (fun j hj=>by obtain rfl:j=0:=(by omega);exact CEnt.errN (bad0E hk (by omega) herr (by assumption)).symm) (.same (.same (.same .nil))))
  refine jS (jtn ?_)
  have hbd:=numM_bd ((runsL b).getD k []) 2147483727
  refine jcr ?_;refine jq jrm ?_;refine jq jrq ?_;refine jq (rd_min2 rfl rfl rfl) ?_;refine jq jrm ?_;refine jN ?_;refine jcg ?_;refine jq jrm ?_;refine jq jrm ?_;refine jq jrm ?_;refine jq jra ?_;refine jq jra ?_
  refine jqe (jebl 2 1 zr3 fun p4=>?_)
  refine seq_ent (pick_ent [0,1,2,5,4] (by decide) rfl) ?_
  refine jqm (jmst 1 ?_)
  refine jN ?_;refine jbn ?_;refine round_norm (([((min ((numM ((runsL b).getD k []) 2147483727).1 / 40) 2:Nat):Int),((numM ((runsL b).getD k []) 2147483727).1:Int)-40 * ((min ((numM ((runsL b).getD k []) 2147483727).1 / 40) 2:Nat):Int)],p4)) ?_ rfl ?_
  ·exact keep0 hk (by omega) herr (by omega)
  ·exact .same (.same (.blk rfl (fun j hj=>by obtain rfl:j=0:=(by omega);exact CEnt.osI rfl) (.blk rfl (two_ent (by omega) (by omega)) (.same .nil))))
 ·rintro ⟨X,ga⟩ ⟨hX,herr⟩
  rw [List.take_of_length_le (by omega)] at hX herr
  refine jbn (jtn ?_)
  refine jcr ?_;refine jqo jrdo ?_;refine seq_ent (freeze 3 rfl) ?_;refine seq_ent (thawIL 50 X rfl rfl rfl (Nat.ble_eq_true_of_le (Nat.le_refl _)) (fun j hj=>cZ)) ?_
  refine jqe (jecP (otext_ac X) ?_)
  refine jq jrx ?_;refine jq jrx ?_
  refine jqm (jmst 1 ?_)
  refine jqm (jmst 1 ?_)
  refine jN ?_
  refine jR (jrt (hres:=res_2 rfl javc javc) (hv:=?_))
  have hg:=get_text hne herr
  rw [← hX] at hg
  exact CEnt.tup2 (CEnt.strL (by rw [hg])) (CEnt.errN (by rw [hg]))
 ·rintro _ ⟨X,ga⟩ ⟨rfl,hbad⟩
  refine .inl ⟨rfl,?_⟩
  refine jbr (jtr (jrt (hres:=res_2 rfl javc javc) (hv:=?_)))
  have hb:=get_err hne hbad
  exact CEnt.tup2 (CEnt.strL (by rw [hb])) (CEnt.errN (by rw [hb]))
end
section
variable {gs:List Nat} [Ok9 gs]
open Go.RowKit Cal
set_option linter.unusedVariables false
end
section
open Go.RowKit Cal
def dg (b:List UInt8) (i:Nat):Int:=((b.getD i 0).toNat:Int)-48
def isDg (b:List UInt8) (i:Nat):Prop:=48≤((b.getD i 0).toNat:Int)∧((b.getD i 0).toNat:Int)≤57
instance (b:List UInt8) (i:Nat):Decidable (isDg b i):=by unfold isDg;infer_instance
def two (b:List UInt8) (j:Nat):Int:=10 * dg b (2 * j)+dg b (2 * j+1)
def getD6 (b:List UInt8):D6:=⟨100 * two b 0+two b 1,two b 2,two b 3,two b 4,two b 5,two b 6⟩
def formP (b:List UInt8):Prop:=b.length=15∧((b.getD 14 0).toNat:Int)=90∧∀ i,i<14→isDg b i
instance (b:List UInt8):Decidable (formP b):=by unfold formP;infer_instance
def getE (b:List UInt8):Nat:=if formP b then (if RightP (getD6 b) then 0 else 1) else 4
def getV (b:List UInt8):Int:=if formP b∧RightP (getD6 b) then secM (getD6 b) else 0

def texF (x:D6):List Int:=[x.y / 100,x.y % 100,x.m,x.d,x.h,x.mi,x.s]
def texL (x:D6) (i:Nat):List UInt8:=((texF x).take i).flatMap fun n=>[figc n 10,figc n 1]
end
section
variable {gs:List Nat} [Ok9 gs]
open Go.RowKit Cal
set_option linter.unusedVariables false
end
section
variable {gs:List Nat} [Ok9 gs]
open Go.RowKit Cal
set_option linter.unusedVariables false

def twoI (b:List UInt8) (i j:Nat):Int:=if 2 * j+1<i then two b j else if 2 * j<i then dg b (2 * j) else 0
def twF (b:List UInt8) (i j:Nat):CV:=.c (.int .i64 (twoI b i j))

def twL (b:List UInt8) (i:Nat):List Int:=(List.range i).map (two b)
end
section
variable {gs:List Nat} [Ok9 gs]
open Go.RowKit

theorem oid08_ac (n:Nat) (l:List (List UInt8)) (k:Nat) (hl:0<l.length∧l.length≤1000000) (hb:(nowL l).length≤10000000) :
  AC gs Tryz.prog 112 [rdO n l k] [.op 0 (some n) 0]
   (fun r H'=>r=strC (if (nextR 6 l k).is=true∧(ogetM (nextR 6 l k).body).2=0 then (ogetM (nextR 6 l k).body).1 else [])∧H'=[rdO n (nextR 6 l k).l (valK 6 l k fun b=>(ogetM b).2)]):=by
 refine ac_of 5 Tryz.func112 rfl rfl rfl (fun al w0 F0 St0=>?_)
 refine jcr ?_;refine jq jrm ?_;refine jN ?_;refine jcr ?_;refine jq jrm ?_
 refine jqm (jmcH 0 (valueS_ac (m:=0) (fv:=fun _=>.top) (by kernel_rfl) n l k 6 ogetM hl hb (fun b h=>oget_ac b (by omega))) ?_ (ho:=rfl) (he:=(.cons (se rfl CEnt.opI) (.cons (se rfl cZ) (.cons (se rfl CEnt.fn0) .nil)))))
 rintro _ _ ⟨rfl,rfl⟩
 refine ⟨_,_,rfl,cZ,?_⟩
 refine jq jrm ?_;refine jN ?_;refine jR ?_
 exact end_H (.inl rfl) rfl (res_1 rfl (arv_tmp rfl)) cZ
end
section
variable {gs:List Nat} [Ok9 gs]
open Go.RowKit

def octM (least most:Int) (b:List UInt8):List UInt8×Nat:=if (b.length:Int)<least then ([],2) else if most<(b.length:Int) then ([],3) else (b,0)
theorem text08_ac [OkT gs] (n:Nat) (l:List (List UInt8)) (k:Nat) (most:Int) (hl:0<l.length∧l.length≤1000000) (hb:(nowL l).length≤10000000) :
  AC gs Tryz.prog 113 [rdO n l k] [.op 0 (some n) 0,.c (.int .i64 most)]
   (fun r H'=>r=strC (if (nextR 12 l k).is=true∧askedM (nextR 12 l k).body most=0 then (if askedM (nextR 12 l k).body most=0 then (nextR 12 l k).body else []) else [])∧H'=[rdO n (nextR 12 l k).l (valK 12 l k fun b=>askedM b most)]):=by
 have g:∀ b:List UInt8,b.length≤65530→ACp gs Tryz.prog 144 (bsC b::(List.range 1).map (fl [.rp 1 fun _=>.c (.int .i64 most)])) (.tup 2 (fl [strC (if askedM b most=0 then b else []),.err (askedM b most)])):=fun b hb=>by
  refine ac_of 10 Tryz.func144 rfl rfl rfl (fun al w0 F0 St0=>?_)
  refine jcr ?_;refine jq jrm ?_;refine jq jrm ?_;refine jN ?_;refine jcr ?_;refine jq jrm ?_
  first|refine jqo jrdo ?_|refine jq jrdr ?_
  refine jqe (jecP (xget_ac b most (by omega)) ?_)
  refine jq jrx ?_;refine jq jrx ?_;refine jq jrm ?_;refine jq jrm ?_;refine jN ?_
  refine jR jrt
 refine ac_of 8 Tryz.func113 rfl rfl rfl (fun al w0 F0 St0=>?_)
 refine jcr ?_
 refine jqe (jebx 1 fun p1=>?_)
 refine jq jrm ?_;refine jN ?_;refine jE (freeze 1 rfl) ?_;refine jE (thawP 3 (m:=1) rfl rfl (by decide)) ?_;refine jcr ?_;refine jq jrm ?_;refine jq jrmf ?_
 refine jqm (jmcH 0 (valueS_ac (fv:=fl [.rp 1 fun _=>.c (.int .i64 most)]) (by kernel_rfl) n l k 12 (fun b=>(if askedM b most=0 then b else [],askedM b most)) hl hb g) ?_ (ho:=rfl) (he:=(.cons (se rfl CEnt.opI) (.cons (se rfl cZ) (.cons (se rfl (CEnt.fn1 (CEnt.rp int_box))) .nil)))))
 rintro _ _ ⟨rfl,rfl⟩
 refine ⟨_,_,rfl,cZ,?_⟩
 refine jq jrm ?_;refine jN ?_;refine jR ?_
 exact end_H (.inl rfl) rfl (res_1 rfl (arv_tmp rfl)) cZ
end
section
variable {gs:List Nat} [Ok9 gs]
open Go.RowKit Cal

structure AA where
 kind:Int
 tag:Int
 least:Int
 most:Int
def askC (a:AA):CV:=.agg 4 (fl [.c (.int .i64 a.kind),.c (.int .i64 a.tag),.c (.int .i64 a.least),.c (.int .i64 a.most)])
def vN (n:Int):VV:=⟨0,n,false,[],[]⟩
def vI (b:Bool):VV:=⟨0,0,b,[],[]⟩
def vB (b:List UInt8):VV:=⟨0,0,false,b,[]⟩
def vT (t:List UInt8):VV:=⟨0,0,false,[],t⟩
def saidM (a:AA) (b:List UInt8):VV×Nat :=
 if a.kind=3 then (vN (rangeM b a.least a.most).1,(rangeM b a.least a.most).2) else
 if a.kind=4 then (vN (rangeM b a.least a.most).1,(rangeM b a.least a.most).2) else
 if a.kind=5 then (vI (isTrueM b).1,(isTrueM b).2) else
 if a.kind=6 then (vB (octM a.least a.most b).1,(octM a.least a.most b).2) else
 if a.kind=7 then (vT (if askedM b a.most=0 then b else []),askedM b a.most) else
 if a.kind=8 then (vT (ogetM b).1,(ogetM b).2) else
 if a.kind=9 then (vN (getV b),getE b) else (vN ((maskM b).1:Nat),(maskM b).2)
def tagA (a:AA):Int:=if a.kind=3 then 2 else if a.kind=4 then 10 else if a.kind=5 then 1 else if a.kind=6 then 4 else if a.kind=7 then 12 else if a.kind=8 then 6 else if a.kind=9 then 24 else 3
structure R8R where
 l:List (List UInt8)
 k:Nat
 v:VV
def readV (tag:Int) (said:List UInt8→VV×Nat) (l:List (List UInt8)) (k:Nat):R8R :=
 ⟨(nextR tag l k).l,valK tag l k fun b=>(said b).2,if (nextR tag l k).is=true∧(said (nextR tag l k).body).2=0 then (said (nextR tag l k).body).1 else VV.none⟩
def readR (a:AA) (l:List (List UInt8)) (k:Nat):R8R :=
 if a.kind=1 then ⟨enterL a.tag l k,(enterR a.tag l k).k,vI (enterR a.tag l k).is⟩ else
 if a.kind=2 then ⟨leaveL l k,leaveK l k,VV.none⟩ else
 if a.kind=11 then ⟨(nextR 0 l k).l,(nextR 0 l k).k,vB (nextR 0 l k).raw⟩ else readV (tagA a) (saidM a) l k
theorem readR_g {α:Type} (c:α→VV) (z:α) (hz:c z=VV.none) {a:AA} {l:List (List UInt8)} {k:Nat} {t:Int} {f:List UInt8→α×Nat} (h1:a.kind≠1) (h2:a.kind≠2) (h3:a.kind≠11) (hs:saidM a=fun b=>(c (f b).1,(f b).2)) (ht:tagA a=t) :
  readR a l k=⟨(nextR t l k).l,valK t l k fun b=>(f b).2,c (if (nextR t l k).is=true∧(f (nextR t l k).body).2=0 then (f (nextR t l k).body).1 else z)⟩:=by
 subst ht
 unfold readR
 rw [if_neg h1,if_neg h2,if_neg h3]
 unfold readV
 rw [hs]
 simp only
 split
 ·rfl
 ·rw [hz]
end
end Am
end Go.Proofs.YteolfpolmioalaaGreatDoor
