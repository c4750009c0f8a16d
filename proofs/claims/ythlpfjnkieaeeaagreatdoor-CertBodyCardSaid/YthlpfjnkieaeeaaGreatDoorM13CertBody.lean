/- What the law leans on, part 13: W11v, W11s, L11, Open, Open2 -/
import Derived.Test.YthlpfjnkieaeeaaGreatDoorM12CertBody
import Derived.ChangeArms
import Derived.ChangeOld
import Derived.OpenShut

set_option maxRecDepth 100000
namespace Go.Proofs.YthlpfjnkieaeeaaGreatDoor
set_option linter.unusedVariables false
namespace Am
open Go.RowKit
section
open Go.RowKit Cal
set_option maxHeartbeats 1000000 in
theorem rbodyC_ac {gs:List Nat} (v:VV) (hv:OkV v) (hF:v.kind=3∨v.kind=6∨v.kind=7∨v.kind=9∨v.kind=10):AC gs Tryz.prog 157 [] [valC v] (BodyQ v):=by
 have hvt:=hv.t
 have hvn:=hv.n
 refine ac_of 77 Tryz.func157 rfl rfl rfl (fun al w0 F0 St0=>?_)
 refine jcr ?_
 refine jqe (jebx 5 fun p1=>?_)
 refine jU 51262055090675111 ?_;refine jcc (fun h31=>?_) fun h31=>?_
 ·refine jU 501006 ?_
  refine jqe (jecP (rput04_ac v.n hv.n.1 hv.n.2) ?_)
  refine jU 3000500070005111 ?_
  exact end_ownV (.inl rfl) [] (by decide) rfl (res_3 rfl javt javt javt) cZ (bodyQ (by unfold bodyV;rw [if_pos (by omega)]) (fun _=>rfl))
 refine jU 5126 ?_;refine jcc (fun h33=>?_) fun h33=>?_
 ·exfalso;omega
 refine jU 5126 ?_;refine jcc (fun h35=>?_) fun h35=>?_
 ·exfalso;omega
 refine jU 5126 ?_;refine jcc (fun h40=>?_) fun h40=>?_
 ·refine jcs ?_;refine jcd (.rd 0 (.rd 1 (.rd 2 (.rd 3 (.rd 4 .done))))) ?_;refine jyq (jrfa 3 1 false) ?_;refine jU 30005000700088070707010000 ?_
  exact end_ownV (.inl rfl) [] (by decide) rfl (res_3 rfl javt javt javt) cZ (bodyQ (by unfold bodyV;rw [if_neg (by omega),if_neg (by omega),if_neg (by omega),if_pos (by omega)]) (fun _=>rfl))
 refine jU 5126 ?_;refine jcc (fun h42=>?_) fun h42=>?_
 ·refine jcs ?_;refine jcd (.rd 0 (.rd 1 (.rd 3 (.rd 4 (.rd 5 (.rd 6 (.two 2 (.one 7 (.rd 8 (.rd 9 (.rd 10 .done)))) 7 (.rd 8 (.one 2 (.rd 9 (.rd 10 .done))))))))))) ?_;refine jyq (jrfa 4 1 false) ?_;refine jyo jrdo ?_;refine jyq (jrfa 4 1 false) ?_;refine jU 10000800000010000 ?_;refine jytwo ?_ ?_
  ·refine jye (jecv ?_)
   refine jye (jecP (rasked_ac v.t v.n (by omega)) ?_)
   refine jU 300050007000880707070 ?_
   exact end_ownV (.inl rfl) [] (by decide) rfl (res_3 rfl javt javt javt) cZ (bodyQ (b':=v.t) (by unfold bodyV;rw [if_neg (by omega),if_neg (by omega),if_neg (by omega),if_neg (by omega),if_pos (by omega)]) (fun h=>by rw [if_pos h]))
  ·refine jye (jecP (rasked_ac v.t v.n (by omega)) ?_)
   refine jU 70 ?_
   refine jye (jecv ?_)
   refine jU 3000500070008807070 ?_
   exact end_ownV (.inl rfl) [] (by decide) rfl (res_3 rfl javt javt javt) cZ (bodyQ (b':=v.t) (by unfold bodyV;rw [if_neg (by omega),if_neg (by omega),if_neg (by omega),if_neg (by omega),if_pos (by omega)]) (fun h=>by rw [if_pos h]))
 refine jU 5126 ?_;refine jcc (fun h44=>?_) fun h44=>?_
 ·exfalso;omega
 refine jU 5126 ?_;refine jcc (fun h50=>?_) fun h50=>?_
 rotate_left
 ·refine jU 125010067840010 ?_;refine jqsp 69 (fun g56=>?_) fun g56=>?_
  ·refine jU 3000700051116900058000444 ?_
   exact end_ownV (.inl rfl) [] (by decide) rfl (res_3 rfl javt javt javt) (CEnt.tup3 cZ cN cZ) (bodyQ (e:=1) (by unfold bodyV;rw [if_neg (by omega),if_neg (by omega),if_neg (by omega),if_neg (by omega),if_neg (by omega),if_neg (by omega),if_neg (by omega)];unfold bitsE;rw [if_pos (by omega)]) (fun h=>by cases h))
  refine jU 5500250100 ?_;refine jcc (fun h56=>?_) fun h56=>?_
  ·refine jU 3000700051116 ?_
   exact end_ownV (.inl rfl) [] (by decide) rfl (res_3 rfl javt javt javt) (CEnt.tup3 cZ cN cZ) (bodyQ (e:=1) (by unfold bodyV;rw [if_neg (by omega),if_neg (by omega),if_neg (by omega),if_neg (by omega),if_neg (by omega),if_neg (by omega),if_neg (by omega)];unfold bitsE;rw [if_pos (by omega)]) (fun h=>by cases h))
  refine jU 501006810 ?_
  refine jqe (jecP (rflags_ac v.n.toNat (by omega)) ?_ (ho:=rfl) (he:=(.cons (se rfl (cI (by omega))) .nil)))
  refine jU 70005111 ?_
  exact end_ownV (.inl rfl) [] (by decide) rfl (res_3 rfl javt javt javt) cZ (bodyQ (e:=0) (by unfold bodyV;rw [if_neg (by omega),if_neg (by omega),if_neg (by omega),if_neg (by omega),if_neg (by omega),if_neg (by omega),if_neg (by omega)];unfold bitsE;rw [if_neg (by omega)]) (fun h=>by unfold bitsL;rw [if_neg (by omega)]))
 refine jU 125010067 ?_;refine jqsp 57 (fun g51=>?_) fun g51=>?_
 ·refine jU 300050003000700051116900058000444 ?_
  exact end_ownV (.inl rfl) [] (by decide) rfl (res_3 rfl javt javt javt) (CEnt.tup3 cZ cN cZ) (bodyQ (e:=1) (by unfold bodyV;rw [if_neg (by omega),if_neg (by omega),if_neg (by omega),if_neg (by omega),if_neg (by omega),if_neg (by omega),if_pos (by omega)];unfold ofE;rw [if_neg (by unfold inT;omega),if_neg (by unfold inT;omega)]) (fun h=>by cases h))
 refine jU 5500250100 ?_;refine jcc (fun h51=>?_) fun h51=>?_
 ·refine jU 300050003000700051116 ?_
  exact end_ownV (.inl rfl) [] (by decide) rfl (res_3 rfl javt javt javt) (CEnt.tup3 cZ cN cZ) (bodyQ (e:=1) (by unfold bodyV;rw [if_neg (by omega),if_neg (by omega),if_neg (by omega),if_neg (by omega),if_neg (by omega),if_neg (by omega),if_pos (by omega)];unfold ofE;rw [if_neg (by unfold inT;omega),if_neg (by unfold inT;omega)]) (fun h=>by cases h))
 refine jU 810 ?_
 have hin:inT v.n:=⟨by omega,by omega⟩
 refine jU 501006 ?_
 refine jqe (jecP (rof6_ac v.n hin) ?_)
 refine jqe (jecP (rtext6_ac (ofR6 v.n) (ofR_right hin).1) ?_)
 refine jU 3000500070005111 ?_
 exact end_ownV (.inl rfl) [] (by decide) rfl (res_3 rfl javt javt javt) cZ (bodyQ (e:=0) (by unfold bodyV;rw [if_neg (by omega),if_neg (by omega),if_neg (by omega),if_neg (by omega),if_neg (by omega),if_neg (by omega),if_pos (by omega)];unfold ofE;rw [if_pos hin,if_pos hin]) (fun h=>by unfold ofM;rw [if_pos hin]))

def RW (gs:List Nat) (f:FuncId) (r:R8) (args:List CV) (r':R8):Prop:=∀ n,AC gs Tryz.prog f [rwO n r] (.op 0 (some n) 0::args) (fun x H'=>x=.c (.tuple #[])∧H'=[rwO n r'])
theorem rdoC_ac {gs:List Nat} (r:R8) (v:VV) (hs:OkRD r) (hv:OkV v) (hF:v.kind=1∨v.kind=2∨v.kind=3∨v.kind=6∨v.kind=7∨v.kind=9∨v.kind=10):RW gs 80 r [valC v] (rdoS v r):=fun n=>rdoWB_ac n r v hs hv fun _ _ _=>rbodyC_ac v hv (by omega)
theorem rpid_ac {gs:List Nat} (n:Nat) (r:R8) (s:List UInt8) (hs:OkRD r) (h:hexOk s=true):AC gs Tryz.prog 122 [rwO n r] [.op 0 (some n) 0,strC s] (fun x H'=>x=.c (.tuple #[])∧H'=[rwO n (rputFd fId (vB4 (hexB s)) r)]):=by
 have hl:=(hexOk_two h).1
 have hx:=hexB_len s
 have hb:=rnum_ac (gs:=gs) s (by omega)
 rw [if_pos h] at hb
 have hd:=rdoC_ac (gs:=gs) r ⟨6,0,false,hexB s,[]⟩ hs ⟨by show (-9223372036854775808:Int)≤0∧(0:Int)≤9223372036854775807;decide,by show (hexB s).length≤_;omega,by simp⟩ (by simp) n
 have e:rputFd fId (vB4 (hexB s)) r=rdoS ⟨6,0,false,hexB s,[]⟩ r:=rfl
 rw [e]
 refine ac_of 15 Tryz.func122 rfl rfl rfl (fun al w0 F0 St0=>?_)
 refine jU 16 ?_
 refine jqe (jecP hb ?_)
 refine jU 112005119009001 ?_;refine jq (rd_build (n:=5) rfl zr130 pl130 rfl rfl) ?_
 refine jqm (jmcH 0 hd ?_ (ho:=rfl) (he:=(.cons (se rfl cP) (.cons (se rfl (CEnt.agg rfl (fun j hj=>by rcases j with _|_|_|_|_|j <;> exact cZ))) .nil))))
 rintro _ _ ⟨rfl,rfl⟩
 refine ⟨_,_,rfl,cZ,?_⟩
 refine jU 5 ?_
 exact end_own (.inr rfl) _ [_] [0] (by decide) rfl (res_0 rfl) ⟨rfl,rfl⟩
set_option maxHeartbeats 2000000 in
theorem rptx_ac {gs:List Nat} (n:Nat) (r:R8) (l:List (List UInt8)) (hl:l.length≤1000) (h0:OkRD r) (hok:∀ i,i≤l.length→OkRD (rtW r l i)) (hg:∀ x ∈ l,askedM x 64=0):AC gs Tryz.prog 123 [rwO n r] [.op 0 (some n) 0,lsC l] (fun x H'=>x=.c (.tuple #[])∧H'=[rwO n (rdoS w2 (rtW r l l.length))]):=by
 have hv:∀ i,i<l.length→OkV (vTx (l.getD i [])):=fun i hi=>by
  have e:l.getD i []=l[i]:=by simp [List.getD,hi]
  rw [e]
  exact (small_tx (hg _ (List.getElem_mem _))).ok
 refine ac_of 23 Tryz.func123 rfl rfl rfl (fun al w0 F0 St0=>?_)
 refine jU 16 ?_;refine jq (rd_build (n:=5) rfl zr130 pl130 rfl rfl) ?_
 refine jqm (jmcH 0 (rdoC_ac r (w1 48) h0 (small_w1 (t:=48) (by decide)).ok (by simp [w1]) n) ?_ (ho:=rfl) (he:=(.cons (se rfl cP) (.cons (se rfl (CEnt.agg rfl (fun j hj=>by rcases j with _|_|_|_|_|j <;> first|exact cZ|exact cN))) .nil))))
 rintro _ _ ⟨rfl,rfl⟩
 refine ⟨_,_,rfl,cZ,?_⟩
 refine jU 205131675 ?_;refine l_loop (α:=Nat) [5,11,12,13,14,15,16,17,18,19] (fun i=>[(11,.c (.int .i64 (i:Nat)))]) (fun i=>[rwO n (rtW r l i)]) (fun i=>i≤l.length) (fun i=>l.length-i) (0) ?_ (fun _=>rfl) ?_ ?_ ?_
 ·exact Nat.zero_le _
 ·exact .cons cZ .nil
 ·exact HEnt.refl _
 ·rintro i (hi:i≤l.length)
  refine jU 7526 ?_;refine jcc (fun h53=>?_) fun h53=>?_
  rotate_left
  ·refine jU 84000200020006000 ?_
   have hie:i=l.length:=by omega
   subst hie
   refine jU 1200 ?_;refine jq (rd_build (n:=5) rfl zr130 pl130 rfl rfl) ?_
   refine jqm (jmcH 0 (rdoC_ac (rtW r l l.length) w2 (hok _ (Nat.le_refl _)) small_w2.ok (by simp [w2]) n) ?_ (ho:=rfl) (he:=(.cons (se rfl cP) (.cons (se rfl (CEnt.agg rfl (fun j hj=>by rcases j with _|_|_|_|_|j <;> first|exact cZ|exact cN))) .nil))))
   rintro _ _ ⟨rfl,rfl⟩
   refine ⟨_,_,rfl,cZ,?_⟩
   refine jU 5 ?_
   exact end_own (.inr rfl) _ [_] [0] (by decide) rfl (res_0 rfl) ⟨rfl,rfl⟩
  refine jU 1120051607006207810 ?_;refine jq (rd_build (n:=5) rfl zr130 pl130 rfl rfl) ?_
  refine jqm (jmcH 0 (rdoC_ac (rtW r l i) (vTx (l.getD i [])) (hok i (by omega)) (hv i (by omega)) (by simp [vTx]) n) ?_ (ho:=rfl) (he:=(.cons (se rfl cP) (.cons (se rfl (CEnt.agg rfl (fun j hj=>by rcases j with _|_|_|_|_|j <;> first|exact cZ|exact cN))) .nil))))
  rintro _ _ ⟨rfl,rfl⟩
  refine ⟨_,_,rfl,cZ,?_⟩
  refine jU 851920084005 ?_
  refine jlend (i+1) ?_ ?_ (h5:=?_) (h7:=?_)
  ·show i+1≤l.length;omega
  ·show l.length-(i+1)<l.length-i;omega
  ·exact .cons (cI (by omega)) .nil
  ·exact HEnt.refl _
section
variable {gs:List Nat} {c:C11}
theorem ok_n {kd n:Int} (h:-9223372036854775808≤n∧n≤9223372036854775807):OkV ⟨kd,n,false,[],[]⟩:=⟨h,by simp,by simp⟩
theorem rb_0:RW gs 80 r00 [valC (w1 48)] rW0:=rdoC_ac r00 (w1 48) (inv_okR inv_00 (by decide)) (small_w1 (t:=48) (by decide)).ok (by simp [w1])
theorem rb_1 (h:Good11 c):RW gs 80 rW0 [valC ⟨3,c.se,false,[],[]⟩] (rW1 c):=rdoC_ac rW0 ⟨3,c.se,false,[],[]⟩ (inv_okR inv_0 (by decide)) (ok_n (fd_body ok_Se h.se (by decide)).2.2.2.2.2.2.1) (by simp)
theorem rb_2 (h:Good11 c) (ho:hexOk c.iss=true):RW gs 122 (rW1 c) [strC c.iss] (rW2 c):=fun n=>rpid_ac n _ c.iss (inv_okR (inv_1 h) (by decide)) ho
theorem rb_3 (h:Good11 c):RW gs 80 (rW2 c) [valC ⟨3,c.ge,false,[],[]⟩] (rW3 c):=rdoC_ac (rW2 c) ⟨3,c.ge,false,[],[]⟩ (inv_okR (inv_2 h) (by decide)) (ok_n (fd_body ok_Ge h.ge (by decide)).2.2.2.2.2.2.1) (by simp)
theorem rb_4 (h:Good11 c):RW gs 81 (rW3 c) [subjC c.who] (rW4 c):=fun n=>rnput_ac n (inv_3 h) (by decide) c.who
theorem rb_m0 (h:Good11 c):RW gs 80 (rW4 c) [valC (w1 48)] (rmW (rW4 c) [c.nb,c.na] 0):=rdoC_ac (rW4 c) (w1 48) (inv_okR (inv_4 h) (by decide)) (small_w1 (t:=48) (by decide)).ok (by simp [w1])
theorem rb_m1 (h:Good11 c):RW gs 80 (rmW (rW4 c) [c.nb,c.na] 0) [valC ⟨9,c.nb,false,[],[]⟩] (rmW (rW4 c) [c.nb,c.na] 1):=rdoC_ac _ ⟨9,c.nb,false,[],[]⟩ (inv_okR (inv_m0 h) (by decide)) (ok_n (fd_body ok_Mo h.nb (by decide)).2.2.2.2.2.2.1) (by simp)
theorem rb_m2 (h:Good11 c):RW gs 80 (rmW (rW4 c) [c.nb,c.na] 1) [valC ⟨9,c.na,false,[],[]⟩] (rmW (rW4 c) [c.nb,c.na] 2):=rdoC_ac _ ⟨9,c.na,false,[],[]⟩ (inv_okR (inv_m1 h) (by decide)) (ok_n (fd_body ok_Mo h.na (by decide)).2.2.2.2.2.2.1) (by simp)
theorem rb_5 (h:Good11 c):RW gs 80 (rmW (rW4 c) [c.nb,c.na] 2) [valC w2] (rW5 c):=rdoC_ac _ w2 (inv_okR (inv_m2 h) (by decide)) small_w2.ok (by simp [w2])
theorem rb_6 (h:Good11 c) (ho:hexOk c.ky=true):RW gs 122 (rW5 c) [strC c.ky] (rW6 c):=fun n=>rpid_ac n _ c.ky (inv_okR (inv_5 h) (by decide)) ho
theorem rb_7 (h:Good11 c):RW gs 80 (rW6 c) [valC (vFl c.us)] (rW7 c):=rdoC_ac (rW6 c) (vFl c.us) (inv_okR (inv_6 h) (by decide)) ⟨by have:=h.us;show _≤c.us∧c.us≤_;omega,by simp [vFl],by simp [vFl]⟩ (by simp [vFl])
theorem rb_8 (h:Good11 c):RW gs 123 (rW7 c) [lsC c.al] (rW8 c):=fun n=>rptx_ac n (rW7 c) c.al (by have:=h.n8;omega) (inv_okR (inv_7 h) (by decide)) (fun i hi=>inv_okR (inv_t h i hi) (by have:=h.n8;omega)) h.al
theorem rb_9 (h:Good11 c):RW gs 80 (rW8 c) [valC w2] (rW9 c):=rdoC_ac (rW8 c) w2 (inv_okR (inv_8 h) (by decide)) small_w2.ok (by simp [w2])
set_option maxHeartbeats 4000000 in
theorem rbody11_ac (hr:rightC c=true):ACp gs Tryz.prog 51 [.agg 11 (certF c)] (bsC (certB c)):=by
 have hg:=good_right11 hr
 have ho:hexOk c.iss=true∧hexOk c.ky=true:=by unfold rightC at hr;simp only [Bool.and_eq_true] at hr;exact ⟨hr.1.1.2,hr.1.2⟩
 refine ac_of 67 Tryz.func51 rfl rfl rfl (fun al w0 F0 St0=>?_)
 refine jcr ?_
 refine jqe (jebx 11 fun p1=>?_)
 refine jU 651 ?_;refine jq (rd_build (n:=3) rfl zr140 pl140 rfl rfl) ?_
 refine jqe (jebx 3 fun p2=>?_)
 refine jU 51 ?_;refine code_knowG (know_op 3 rfl) fun hn=>?_
 obtain ⟨n,rfl⟩:=hn
 refine jE (newRW n 1 rfl cZ cZ cZ) ?_
 dsimp only [List.set_cons_zero,List.set_cons_succ,List.cons_append,List.nil_append,List.length_cons,List.length_nil,Nat.zero_add,Nat.reduceAdd]
 refine jU 16 ?_;refine jq (rd_build (n:=5) rfl zr130 pl130 rfl rfl) ?_
 refine jqm (jmcH 1 (rb_0 n) ?_ (ho:=rfl) (he:=(.cons (se rfl cP) (.cons (se rfl (CEnt.agg rfl (fun j hj=>by rcases j with _|_|_|_|_|j <;> first|exact cZ|exact cN))) .nil))))
 rintro _ _ ⟨rfl,rfl⟩
 refine ⟨_,_,rfl,cZ,?_⟩
 refine jU 5 ?_
 dsimp only [List.set_cons_zero,List.set_cons_succ,List.cons_append,List.nil_append,List.length_cons,List.length_nil,Nat.zero_add,Nat.reduceAdd]
 refine jU 509016 ?_;refine jq (rd_build (n:=5) rfl zr130 pl130 rfl rfl) ?_
 refine jqm (jmcH 1 (rb_1 hg n) ?_ (ho:=rfl) (he:=(.cons (se rfl cP) (.cons (se rfl (CEnt.agg rfl (fun j hj=>by rcases j with _|_|_|_|_|j <;> first|exact cZ|exact cN))) .nil))))
 rintro _ _ ⟨rfl,rfl⟩
 refine ⟨_,_,rfl,cZ,?_⟩
 refine jU 5 ?_
 dsimp only [List.set_cons_zero,List.set_cons_succ,List.cons_append,List.nil_append,List.length_cons,List.length_nil,Nat.zero_add,Nat.reduceAdd]
 refine jU 5010016 ?_
 refine jqm (jmcH 1 (rb_2 hg ho.1 n) ?_)
 rintro _ _ ⟨rfl,rfl⟩
 refine ⟨_,_,rfl,cZ,?_⟩
 refine jU 5 ?_
 dsimp only [List.set_cons_zero,List.set_cons_succ,List.cons_append,List.nil_append,List.length_cons,List.length_nil,Nat.zero_add,Nat.reduceAdd]
 refine jU 50100016 ?_;refine jq (rd_build (n:=5) rfl zr130 pl130 rfl rfl) ?_
 refine jqm (jmcH 1 (rb_3 hg n) ?_ (ho:=rfl) (he:=(.cons (se rfl cP) (.cons (se rfl (CEnt.agg rfl (fun j hj=>by rcases j with _|_|_|_|_|j <;> first|exact cZ|exact cN))) .nil))))
 rintro _ _ ⟨rfl,rfl⟩
 refine ⟨_,_,rfl,cZ,?_⟩
 refine jU 5 ?_
 dsimp only [List.set_cons_zero,List.set_cons_succ,List.cons_append,List.nil_append,List.length_cons,List.length_nil,Nat.zero_add,Nat.reduceAdd]
 refine jU 16 ?_;refine jq (jrfa 3 3 true) ?_;refine jqo (jrdoA 3) ?_
 refine jqm (jmcH 1 (rb_4 hg n) ?_ (ho:=rfl) (he:=(.cons (se rfl cP) (.cons (se rfl (CEnt.agg rfl (fun j hj=>by rcases j with _|_|_|j <;> first|exact cZ|omega))) .nil))))
 rintro _ _ ⟨rfl,rfl⟩
 refine ⟨_,_,rfl,cZ,?_⟩
 refine jU 5 ?_
 dsimp only [List.set_cons_zero,List.set_cons_succ,List.cons_append,List.nil_append,List.length_cons,List.length_nil,Nat.zero_add,Nat.reduceAdd]
 refine jU 16 ?_;refine jq (rd_build (n:=5) rfl zr130 pl130 rfl rfl) ?_
 refine jqm (jmcH 1 (rb_m0 hg n) ?_ (ho:=rfl) (he:=(.cons (se rfl cP) (.cons (se rfl (CEnt.agg rfl (fun j hj=>by rcases j with _|_|_|_|_|j <;> first|exact cZ|exact cN))) .nil))))
 rintro _ _ ⟨rfl,rfl⟩
 refine ⟨_,_,rfl,cZ,?_⟩
 refine jU 5 ?_
 dsimp only [List.set_cons_zero,List.set_cons_succ,List.cons_append,List.nil_append,List.length_cons,List.length_nil,Nat.zero_add,Nat.reduceAdd]
 refine jU 502000000016 ?_;refine jq (rd_build (n:=5) rfl zr130 pl130 rfl rfl) ?_
 refine jqm (jmcH 1 (rb_m1 hg n) ?_ (ho:=rfl) (he:=(.cons (se rfl cP) (.cons (se rfl (CEnt.agg rfl (fun j hj=>by rcases j with _|_|_|_|_|j <;> first|exact cZ|exact cN))) .nil))))
 rintro _ _ ⟨rfl,rfl⟩
 refine ⟨_,_,rfl,cZ,?_⟩
 refine jU 5 ?_
 dsimp only [List.set_cons_zero,List.set_cons_succ,List.cons_append,List.nil_append,List.length_cons,List.length_nil,Nat.zero_add,Nat.reduceAdd]
 refine jU 16 ?_;refine jq (jrfa 7 1 false) ?_;refine jU 50 ?_;refine jq (rd_build (n:=5) rfl zr130 pl130 rfl rfl) ?_
 refine jqm (jmcH 1 (rb_m2 hg n) ?_ (ho:=rfl) (he:=(.cons (se rfl cP) (.cons (se rfl (CEnt.agg rfl (fun j hj=>by rcases j with _|_|_|_|_|j <;> first|exact cZ|exact cN))) .nil))))
 rintro _ _ ⟨rfl,rfl⟩
 refine ⟨_,_,rfl,cZ,?_⟩
 refine jU 5 ?_
 dsimp only [List.set_cons_zero,List.set_cons_succ,List.cons_append,List.nil_append,List.length_cons,List.length_nil,Nat.zero_add,Nat.reduceAdd]
 refine jU 16 ?_;refine jq (rd_build (n:=5) rfl zr130 pl130 rfl rfl) ?_
 refine jqm (jmcH 1 (rb_5 hg n) ?_ (ho:=rfl) (he:=(.cons (se rfl cP) (.cons (se rfl (CEnt.agg rfl (fun j hj=>by rcases j with _|_|_|_|_|j <;> first|exact cZ|exact cN))) .nil))))
 rintro _ _ ⟨rfl,rfl⟩
 refine ⟨_,_,rfl,cZ,?_⟩
 refine jU 5 ?_
 dsimp only [List.set_cons_zero,List.set_cons_succ,List.cons_append,List.nil_append,List.length_cons,List.length_nil,Nat.zero_add,Nat.reduceAdd]
 refine jU 16 ?_;refine jq (jrfa 8 1 false) ?_;refine jU 50 ?_
 refine jqm (jmcH 1 (rb_6 hg ho.2 n) ?_)
 rintro _ _ ⟨rfl,rfl⟩
 refine ⟨_,_,rfl,cZ,?_⟩
 refine jU 5 ?_
 dsimp only [List.set_cons_zero,List.set_cons_succ,List.cons_append,List.nil_append,List.length_cons,List.length_nil,Nat.zero_add,Nat.reduceAdd]
 refine jU 16 ?_;refine jq (jrfa 9 1 false) ?_;refine jU 50 ?_;refine jq (rd_build (n:=5) rfl zr130 pl130 rfl rfl) ?_
 refine jqm (jmcH 1 (rb_7 hg n) ?_ (ho:=rfl) (he:=(.cons (se rfl cP) (.cons (se rfl (CEnt.agg rfl (fun j hj=>by rcases j with _|_|_|_|_|j <;> first|exact cZ|exact cN))) .nil))))
 rintro _ _ ⟨rfl,rfl⟩
 refine ⟨_,_,rfl,cZ,?_⟩
 refine jU 5 ?_
 dsimp only [List.set_cons_zero,List.set_cons_succ,List.cons_append,List.nil_append,List.length_cons,List.length_nil,Nat.zero_add,Nat.reduceAdd]
 refine jU 16 ?_;refine jq (jrfa 10 1 false) ?_;refine jU 50 ?_
 refine jqm (jmcH 1 (rb_8 hg n) ?_)
 rintro _ _ ⟨rfl,rfl⟩
 refine ⟨_,_,rfl,cZ,?_⟩
 refine jU 5 ?_
 dsimp only [List.set_cons_zero,List.set_cons_succ,List.cons_append,List.nil_append,List.length_cons,List.length_nil,Nat.zero_add,Nat.reduceAdd]
 refine jU 16 ?_;refine jq (rd_build (n:=5) rfl zr130 pl130 rfl rfl) ?_
 refine jqm (jmcH 1 (rb_9 hg n) ?_ (ho:=rfl) (he:=(.cons (se rfl cP) (.cons (se rfl (CEnt.agg rfl (fun j hj=>by rcases j with _|_|_|_|_|j <;> first|exact cZ|exact cN))) .nil))))
 rintro _ _ ⟨rfl,rfl⟩
 refine ⟨_,_,rfl,cZ,?_⟩
 refine jU 165 ?_
 refine jqm (jmcH 1 (rdone08_ac n (rW9 c) (inv_okR (inv_9 hg) (by decide))) ?_)
 rintro _ _ ⟨rfl,rfl⟩
 refine ⟨_,_,rfl,cZ,?_⟩
 refine jU 51165119009001 ?_
 refine jR (jrt (hv:=?_))
 rw [(cert_rput hg).2]
 exact cZ
end
end
section
open Go.RowKit Cal
theorem eqT_ac {gs:List Nat} (l:List (List UInt8)):ACp gs Tryz.prog 113 [lsC l,lsC l] (.c (.bool true)):=by
 refine ac_len 0 rfl fun hlen=>?_
 refine ac_of 26 Tryz.func113 rfl rfl rfl (fun al w0 F0 St0=>?_)
 refine jU 52313167516 ?_;refine jcc (fun h21=>?_) fun h21=>?_
 ·refine jU 516 ?_
  refine jR (jtr (jrt (hv:=absurd rfl h21)))
 refine jU 20513167810 ?_;refine l_loop (α:=Nat) [4,5,13,14,15,16,17,18,19,20,21,22,23,24,25] (fun i=>[(13,.c (.int .i64 (i:Nat)))]) (fun _=>[]) (fun i=>i≤l.length) (fun i=>l.length-i) (0) ?_ (fun _=>rfl) ?_ ?_ ?_
 ·exact Nat.zero_le _
 ·(repeat (first|exact EntE.nil|refine EntE.cons cZ ?_))
 ·(repeat (exact HEnt.nil))
 ·rintro i (hi:i≤l.length)
  refine jU 7526 ?_;refine jcc (fun h24=>?_) fun h24=>?_
  rotate_left
  ·refine jU 51684000200020006000 ?_
   refine jR jrt
  refine jU 75116207810 ?_;refine jcd (.rd 0 (.rd 1 (.rd 2 (.rd 3 (.rd 4 (.rd 5 (.rd 6 (.rd 7 (.rd 8 .done))))))))) ?_;refine jU 7000090000707070000900007070 ?_;refine jyq jrcs ?_;refine jU 880 ?_;refine jcc (fun h25=>?_) fun h25=>?_
  ·refine jU 516 ?_
   refine jR (jbr (jtr (jtr (jbr (jtr (jrt (hv:=absurd rfl h25)))))))
  refine jU 8519200840010 ?_;refine jlend (i+1) ?_ ?_
  ·show i+1≤l.length;omega
  ·omega
theorem rsameT_ac {gs:List Nat} (l:List (List UInt8)):ACp gs Tryz.prog 124 [lsC l,lsC l] (.c (.bool true)):=by
 refine ac_len 0 rfl fun hlen=>?_
 refine ac_of 26 Tryz.func124 rfl rfl rfl (fun al w0 F0 St0=>?_)
 refine jU 52313167516 ?_;refine jcc (fun h158=>?_) fun h158=>?_
 ·refine jU 516 ?_
  refine jR (jtr (jrt (hv:=absurd rfl h158)))
 refine jU 20513167810 ?_;refine l_loop (α:=Nat) [4,5,13,14,15,16,17,18,19,20,21,22,23,24,25] (fun i=>[(13,.c (.int .i64 (i:Nat)))]) (fun _=>[]) (fun i=>i≤l.length) (fun i=>l.length-i) (0) ?_ (fun _=>rfl) ?_ ?_ ?_
 ·exact Nat.zero_le _
 ·(repeat (first|exact EntE.nil|refine EntE.cons cZ ?_))
 ·(repeat (exact HEnt.nil))
 ·rintro i (hi:i≤l.length)
  refine jU 7526 ?_;refine jcc (fun h161=>?_) fun h161=>?_
  rotate_left
  ·refine jU 51684000200020006000 ?_
   refine jR jrt
  refine jU 75116207810 ?_;refine jcd (.rd 0 (.rd 1 (.rd 2 (.rd 3 (.rd 4 (.rd 5 (.rd 6 (.rd 7 (.rd 8 .done))))))))) ?_;refine jU 7000090000707070000900007070 ?_;refine jyq jrcs ?_;refine jU 880 ?_;refine jcc (fun h162=>?_) fun h162=>?_
  ·refine jU 516 ?_
   refine jR (jbr (jtr (jtr (jbr (jtr (jrt (hv:=absurd rfl h162)))))))
  refine jU 8519200840010 ?_;refine jlend (i+1) ?_ ?_
  ·show i+1≤l.length;omega
  ·omega
set_option maxHeartbeats 4000000 in
theorem same11_ac {gs:List Nat} (c:C11):ACp gs Tryz.prog 49 [.agg 11 (certF c),.agg 11 (certF c)] (.c (.bool true)):=by
 refine ac_of 65 Tryz.func49 rfl rfl rfl (fun al w0 F0 St0=>?_)
 refine jcr ?_
 refine jqe (jebx 11 fun p1=>?_)
 refine jqe (jebx 11 fun p2=>?_)
 refine jU 6751 ?_;refine jq (jrfa 10 1 false) ?_;refine jU 50 ?_;refine jq (jrfa 10 1 false) ?_;refine jU 50 ?_
 refine jqe (jecP (eqT_ac c.al) ?_)
 refine jU 530 ?_;refine jcc (fun h171=>?_) fun h171=>?_
 ·refine jU 516 ?_
  refine jR (jtr (jrt (hv:=absurd h171 (by decide))))
 refine jU 12509050906810 ?_;refine jqsp 16 (fun g174=>?_) fun g174=>?_
 rotate_left
 ·refine jU 5150044444150044444150044444150044444150044444150044444150044444 ?_
  refine jR (jrt (hv:=?_))
  refine cB ?_
  (simp_all;done)
 refine jU 18000600005010050100 ?_;refine jqsp 23 (fun g174_2=>?_) fun g174_2=>?_
 rotate_left
 ·refine jU 5150044444150044444150044444150044444150044444150044444 ?_
  refine jR (jrt (hv:=?_))
  refine cB ?_
  (simp_all;done)
 refine jU 180002501000501000 ?_;refine jqsp 30 (fun g174_3=>?_) fun g174_3=>?_
 rotate_left
 ·refine jU 5150044444150044444150044444150044444150044444 ?_
  refine jR (jrt (hv:=?_))
  refine cB ?_
  (simp_all;done)
 refine jq (jrfa 3 3 true) ?_;refine jqo (jrdoA 3) ?_;refine jq (jrfa 3 3 true) ?_;refine jqo (jrdoA 3) ?_;refine jq (rd_eqAgg rfl rfl rfl Tryz.underlying36 (by kernel_rfl) (by kernel_rfl) (.int Tryz.underlying3 (by decide) rfl rfl (.str Tryz.underlying9 (by decide) rfl rfl (.str Tryz.underlying9 (by decide) rfl rfl .nil))) rfl) ?_;refine jU 18000 ?_;refine jqsp 37 (fun g174_4=>?_) fun g174_4=>?_
 rotate_left
 ·refine jU 5150044444150044444150044444150044444 ?_
  refine jR (jrt (hv:=?_))
  refine cB ?_
  (simp_all;done)
 refine jU 18000250200000005020000000 ?_;refine jqsp 44 (fun g174_5=>?_) fun g174_5=>?_
 rotate_left
 ·refine jU 5150044444150044444150044444 ?_
  refine jR (jrt (hv:=?_))
  refine cB ?_
  (simp_all;done)
 refine jq (jrfa 7 1 false) ?_;refine jU 50 ?_;refine jq (jrfa 7 1 false) ?_;refine jU 18000250 ?_;refine jqsp 51 (fun g174_6=>?_) fun g174_6=>?_
 rotate_left
 ·refine jU 5150044444150044444 ?_
  refine jR (jrt (hv:=?_))
  refine cB ?_
  (simp_all;done)
 refine jq (jrfa 8 1 false) ?_;refine jU 50 ?_;refine jq (jrfa 8 1 false) ?_;refine jU 180006000050 ?_;refine jqsp 58 (fun g174_7=>?_) fun g174_7=>?_
 ·refine jq (jrfa 9 1 false) ?_;refine jU 50 ?_;refine jq (jrfa 9 1 false) ?_;refine jU 518000250 ?_
  refine jR (jrt (hv:=?_))
  refine cB ?_
  (simp_all;done)
 refine jU 5150044444 ?_
 refine jR (jrt (hv:=?_))
 refine cB ?_
 (simp_all;done)
set_option maxHeartbeats 4000000 in
theorem rsame11_ac {gs:List Nat} (c:C11):ACp gs Tryz.prog 52 [.agg 11 (certF c),.agg 11 (certF c)] (.c (.bool true)):=by
 refine ac_of 66 Tryz.func52 rfl rfl rfl (fun al w0 F0 St0=>?_)
 refine jcr ?_
 refine jqe (jebx 11 fun p1=>?_)
 refine jqe (jebx 11 fun p2=>?_)
 refine jU 1250905090651 ?_;refine jqsp 10 (fun g192=>?_) fun g192=>?_
 rotate_left
 ·refine jU 5150044444150044444150044444150044444150044444150044444150044444150044444 ?_
  refine jR (jrt (hv:=?_))
  refine cB ?_
  (simp_all;done)
 refine jU 18000600005010050100 ?_;refine jqsp 17 (fun g192_2=>?_) fun g192_2=>?_
 rotate_left
 ·refine jU 5150044444150044444150044444150044444150044444150044444150044444 ?_
  refine jR (jrt (hv:=?_))
  refine cB ?_
  (simp_all;done)
 refine jU 180002501000501000 ?_;refine jqsp 24 (fun g192_3=>?_) fun g192_3=>?_
 rotate_left
 ·refine jU 5150044444150044444150044444150044444150044444150044444 ?_
  refine jR (jrt (hv:=?_))
  refine cB ?_
  (simp_all;done)
 refine jq (jrfa 3 3 true) ?_;refine jqo (jrdoA 3) ?_;refine jq (jrfa 3 3 true) ?_;refine jqo (jrdoA 3) ?_;refine jq (rd_eqAgg rfl rfl rfl Tryz.underlying36 (by kernel_rfl) (by kernel_rfl) (.int Tryz.underlying3 (by decide) rfl rfl (.str Tryz.underlying9 (by decide) rfl rfl (.str Tryz.underlying9 (by decide) rfl rfl .nil))) rfl) ?_;refine jU 18000 ?_;refine jqsp 31 (fun g192_4=>?_) fun g192_4=>?_
 rotate_left
 ·refine jU 5150044444150044444150044444150044444150044444 ?_
  refine jR (jrt (hv:=?_))
  refine cB ?_
  (simp_all;done)
 refine jU 18000250200000005020000000 ?_;refine jqsp 38 (fun g192_5=>?_) fun g192_5=>?_
 rotate_left
 ·refine jU 5150044444150044444150044444150044444 ?_
  refine jR (jrt (hv:=?_))
  refine cB ?_
  (simp_all;done)
 refine jq (jrfa 7 1 false) ?_;refine jU 50 ?_;refine jq (jrfa 7 1 false) ?_;refine jU 18000250 ?_;refine jqsp 45 (fun g192_6=>?_) fun g192_6=>?_
 rotate_left
 ·refine jU 5150044444150044444150044444 ?_
  refine jR (jrt (hv:=?_))
  refine cB ?_
  (simp_all;done)
 refine jq (jrfa 8 1 false) ?_;refine jU 50 ?_;refine jq (jrfa 8 1 false) ?_;refine jU 180006000050 ?_;refine jqsp 52 (fun g192_7=>?_) fun g192_7=>?_
 rotate_left
 ·refine jU 5150044444150044444 ?_
  refine jR (jrt (hv:=?_))
  refine cB ?_
  (simp_all;done)
 refine jq (jrfa 9 1 false) ?_;refine jU 50 ?_;refine jq (jrfa 9 1 false) ?_;refine jU 18000250 ?_;refine jqsp 59 (fun g192_8=>?_) fun g192_8=>?_
 ·refine jq (jrfa 10 1 false) ?_;refine jU 50 ?_;refine jq (jrfa 10 1 false) ?_;refine jU 50 ?_
  refine jqe (jecP (rsameT_ac c.al) ?_)
  refine jU 518000 ?_
  refine jR (jrt (hv:=?_))
  refine cB ?_
  rfl
 refine jU 5150044444 ?_
 refine jR (jrt (hv:=?_))
 refine cB ?_
 (simp_all;done)
def longC (c:C11):Bool:=decide (100<c.iss.length) || decide (100<c.ky.length) || decide (100<c.who.2.1.length) || decide (100<c.who.2.2.length) || decide (20<c.al.length)
theorem long11_ac {gs:List Nat} (c:C11):ACp gs Tryz.prog 45 [.agg 11 (certF c)] (.c (.bool (longC c || c.al.any fun x=>decide (100<x.length)))):=by
 refine ac_of 46 Tryz.func45 rfl rfl rfl (fun al w0 F0 St0=>?_)
 refine jcr ?_
 refine jqe (jebx 11 fun p1=>?_)
 refine jU 751 ?_;refine jE (blk_ent 0 (m:=11) (F:=certF c) rfl (by decide) (fun _=>rfl) (fun j hj=>CEnt.of_eq (fl_map _ hj))) ?_;refine jU 1240000501006 ?_;refine jqsp 9 (fun g25=>?_) fun g25=>?_
 ·refine jU 516900058000444418000444441800044444180004444 ?_
  refine jR (jtr (jrt (hv:=?_)))
  refine cB ?_
  have:longC c=true:=by unfold longC;simp_all;omega
  rw [this,Bool.true_or]
 refine jq (jrfa 8 1 false) ?_;refine jU 150024000050 ?_;refine jqsp 15 (fun g25_2=>?_) fun g25_2=>?_
 ·refine jU 516900058000444418000444441800044444 ?_
  refine jR (jtr (jrt (hv:=?_)))
  refine cB ?_
  have:longC c=true:=by unfold longC;simp_all;omega
  rw [this,Bool.true_or]
 refine jq (jrfa 3 3 true) ?_;refine jU 150024000050100 ?_;refine jqsp 22 (fun g25_3=>?_) fun g25_3=>?_
 ·refine jU 51690005800044441800044444 ?_
  refine jR (jtr (jrt (hv:=?_)))
  refine cB ?_
  have:longC c=true:=by unfold longC;simp_all;omega
  rw [this,Bool.true_or]
 refine jq (jrfa 3 3 true) ?_;refine jU 1500240000501000 ?_;refine jqsp 29 (fun g25_4=>?_) fun g25_4=>?_
 ·refine jU 5169000580004444 ?_
  refine jR (jtr (jrt (hv:=?_)))
  refine cB ?_
  have:longC c=true:=by unfold longC;simp_all;omega
  rw [this,Bool.true_or]
 refine jq (jrfa 10 1 false) ?_;refine jU 55002350 ?_;refine jcc (fun h25=>?_) fun h25=>?_
 ·refine jU 516 ?_
  refine jR (jtr (jrt (hv:=?_)))
  refine cB ?_
  have:longC c=true:=by unfold longC;simp_all;omega
  rw [this,Bool.true_or]
 refine jU 67810 ?_;refine jq (jrfa 10 1 false) ?_;refine jU 2051350 ?_
 have hlo:longC c=false:=by unfold longC;simp_all;omega
 refine l_loop (α:=Nat) [2,4,38,39,40,41,42,43,44,45] (fun i=>[(38,.c (.int .i64 (i:Nat)))]) (fun i=>[(p1,.blk 11 (certF c))]) (fun i=>i≤c.al.length∧(c.al.take i).any (fun x=>decide (100<x.length))=false) (fun i=>c.al.length-i) (0) ?_ (fun _=>rfl) ?_ ?_ ?_
 ·exact ⟨Nat.zero_le _,rfl⟩
 ·exact .cons cZ .nil
 ·exact .same .nil
 ·rintro i ⟨(hi:i≤c.al.length),ha⟩
  refine jU 7526 ?_;refine jcc (fun h28=>?_) fun h28=>?_
  rotate_left
  ·refine jU 51684000200020006000 ?_
   refine jR (jrt (hv:=?_))
   refine cB ?_
   have hil:i=c.al.length:=by omega
   rw [hlo,Bool.false_or,← ha,hil,List.take_length]
  refine jU 52400001651607006207810 ?_;refine jcc (fun h29=>?_) fun h29=>?_
  ·refine jU 516 ?_
   refine jR (jbr (jtr (jtr (jbr (jtr (jrt (hv:=?_)))))))
   refine cB ?_
   have hx:(c.al.any fun x=>decide (100<x.length))=true:=by
    have hlt:i<c.al.length:=by omega
    have e:c.al.getD i []=c.al[i]:=by simp [List.getD,hlt]
    refine List.any_eq_true.2 ⟨c.al[i],List.getElem_mem hlt,?_⟩
    rw [← e]
    exact decide_eq_true (by omega)
   rw [hx,Bool.or_true]
  refine jU 8519200840010 ?_
  refine jlend (i+1) ?_ ?_ (h5:=?_) (h7:=?_)
  ·refine ⟨by omega,?_⟩
   rw [List.take_succ_eq_append_getElem (show i<c.al.length by omega),List.any_append,ha]
   have e:c.al.getD i []=c.al[i]'(by omega):=by simp [List.getD,show i<c.al.length by omega]
   have h:¬ 100<(c.al.getD i []).length:=by omega
   rw [e] at h
   simp [h]
  ·show c.al.length-(i+1)<c.al.length-i;omega
  ·exact .cons (cI (by omega)) .nil
  ·exact .same .nil
end
section
open Go.RowKit Cal
def exC (nb:Int):C11:=⟨1,List.replicate 32 48,1,(1,[],[97]),nb,5,List.replicate 31 48++[49],1,[]⟩
theorem ex11:rightC (exC 0)=true∧rightC (exC 6)=false:=by decide +kernel
theorem ex11_len:20<(certB (exC 0)).length:=by decide +kernel
section
variable {gs:List Nat} [OkG gs] [OkT gs]
set_option maxHeartbeats 2000000 in
theorem alive11_ac:ACp gs Tryz.prog 9 [] (.c (.bool true)):=by
 obtain ⟨ra,rb⟩:=ex11
 have rl:(20:Int)<((certB (exC 0)).length:Nat):=Int.ofNat_lt.2 ex11_len
 have hA:=body11_ac (gs:=gs) (exC 0) (by decide)
 rw [if_pos ra,if_pos ra] at hA
 have hB:=body11_ac (gs:=gs) (exC 6) (by decide)
 rw [if_neg (by rw [rb];decide),if_neg (by rw [rb];decide)] at hB
 refine ac_of 31 Tryz.func9 rfl rfl rfl (fun al w0 F0 St0=>?_)
 refine jU 6516 ?_;refine jq (rd_build (n:=3) rfl zr36 pl36 rfl rfl) ?_;refine jq (rd_build (n:=11) rfl zr84 pl84 rfl rfl) ?_
 refine jqe (jeal (n:=11) zr84 rfl fun p1=>?_)
 refine jqm (jmstF 11 (certF (exC 0)) ?_ ?_)
 ·exact (fun j hj=>by rcases j with _|_|_|_|_|_|_|_|_|_|_|j <;> first|exact cZ|exact CEnt.nilS' rfl|omega)
 refine jU 65 ?_;refine jqo (jrdoA 11) ?_
 refine jqe (jecP hA ?_ (ho:=rfl) (he:=(.cons (se rfl (CEnt.agg rfl (fun j hj=>by rcases j with _|_|_|_|_|_|_|_|_|_|_|j <;> exact cZ))) .nil)))
 refine jU 2000000065119009001 ?_
 refine jqm (jmstF 1 (certF (exC 6)) ?_ ?_)
 ·exact (fun j hj=>by rcases j with _|_|_|_|_|_|_|_|_|_|_|j <;> exact cZ)
 refine jU 65 ?_;refine jqo (jrdoA 11) ?_
 refine jqe (jecP hB ?_ (ho:=rfl) (he:=(.cons (se rfl (CEnt.agg rfl (fun j hj=>by rcases j with _|_|_|_|_|_|_|_|_|_|_|j <;> exact cZ))) .nil)))
 refine jU 1500000165119009001 ?_;refine jqsp 21 (fun g20=>?_) fun g20=>?_
 rotate_left
 ·refine jU 515004441500444 ?_
  refine jR (jrt (hv:=?_))
  first
  |(exfalso;omega)
  |(refine cB ?_;first|rfl|(simp;done)|(rw [decide_eq_true rl];rfl)|(simp_all;done))
 refine jU 18000231 ?_;refine jqsp 26 (fun g20_2=>?_) fun g20_2=>?_
 ·refine jU 1 ?_
  refine jqe (jecP (num_ac 4 (by decide)) ?_)
  refine jU 5180002 ?_
  refine jR (jrt (hv:=?_))
  first
  |(exfalso;omega)
  |(refine cB ?_;rfl)
 refine jU 51500444 ?_
 refine jR (jrt (hv:=?_))
 first
 |(exfalso;omega)
 |(refine cB ?_;first|rfl|(simp;done)|(rw [decide_eq_true rl];rfl)|(simp_all;done))
set_option maxHeartbeats 4000000 in
theorem certBodyT_ac (c:C11) (hr:rightC c=true):ACp gs Tryz.prog 8 [.agg 11 (certF c)] (.c (.bool true)):=by
 have hB:=fun h=>body11_ac (gs:=gs) c h
 have hR:=fun h=>right11_ac (gs:=gs) c h
 have hS:=fun h1 h2=>rright11_ac (gs:=gs) c h1 h2
 rw [hr] at hR hS
 simp only [hr,if_true] at hB
 refine ac_of 62 Tryz.func8 rfl rfl rfl (fun al w0 F0 St0=>?_)
 refine jcr ?_
 refine jqe (jebx 11 fun p1=>?_)
 refine jU 6751 ?_
 refine jqe (jecP alive11_ac ?_)
 refine jU 530 ?_;refine jcc (fun h38=>?_) fun h38=>?_
 ·exfalso;exact absurd h38 (by decide)
 refine jU 7810 ?_;refine jE (blk_ent 0 (m:=11) (F:=certF c) rfl (by decide) (fun _=>rfl) (fun j hj=>CEnt.of_eq (fl_map _ hj))) ?_;refine jcr ?_;refine jqo (jrdoA 11) ?_
 refine jqe (jecP (long11_ac c) ?_ (ho:=rfl) (he:=(.cons (se rfl (CEnt.agg rfl (fun j hj=>by rcases j with _|_|_|_|_|_|_|_|_|_|_|j <;> exact cZ))) .nil)))
 refine jU 5 ?_;refine jcc (fun h41=>?_) fun h41=>?_
 ·refine jU 516 ?_
  refine jR (jtr (jrt (hv:=cZ)))
 refine jU 810 ?_
 have hlo:longC c=false:=by simp_all
 have hb:c.al.length≤20∧c.iss.length≤100∧c.ky.length≤100:=by unfold longC at hlo;simp at hlo;omega
 refine jcr ?_;refine jqo (jrdoA 11) ?_
 refine jqe (jecP (hB (by omega)) ?_ (ho:=rfl) (he:=(.cons (se rfl (CEnt.agg rfl (fun j hj=>by rcases j with _|_|_|_|_|_|_|_|_|_|_|j <;> exact cZ))) .nil)))
 refine jU 775119009001 ?_;refine jcd (.rd 0 (.rd 2 (.one 1 (.one 3 (.rd 4 (.rd 5 (.rd 6 (.rd 7 (.one 8 (.rd 9 (.rd 10 .done))))))))))) ?_;refine jyo (jrdoA 11) ?_;refine jyo (jrdoA 11) ?_
 refine jye (jecP (hR (by omega)) ?_ (ho:=rfl) (he:=(.cons (se rfl (CEnt.agg rfl (fun j hj=>by rcases j with _|_|_|_|_|_|_|_|_|_|_|j <;> exact cZ))) .nil)))
 refine jye (jecP (hS (by omega) (by omega)) ?_ (ho:=rfl) (he:=(.cons (se rfl (CEnt.agg rfl (fun j hj=>by rcases j with _|_|_|_|_|_|_|_|_|_|_|j <;> exact cZ))) .nil)))
 refine jyq jrcb ?_;refine jU 70 ?_;refine jysp 21 (fun g45=>?_) fun g45=>?_
 ·refine jU 600600 ?_;refine jys1 ?_;refine jU 51690008803000000600 ?_
  refine jR (jtr (jrt (hv:=?_)))
  exfalso
  simp_all
 refine jyo (jrdoA 11) ?_;refine jyo (jrdoA 11) ?_
 refine jye (jecP (same11_ac c) ?_ (ho:=rfl) (he:=(.cons (se rfl (CEnt.agg rfl (fun j hj=>by rcases j with _|_|_|_|_|_|_|_|_|_|_|j <;> exact cZ))) (.cons (se rfl (CEnt.agg rfl (fun j hj=>by rcases j with _|_|_|_|_|_|_|_|_|_|_|j <;> exact cZ))) .nil))))
 refine jU 880300000100000 ?_;refine jcc (fun h45=>?_) fun h45=>?_
 ·refine jU 516 ?_
  refine jR (jtr (jrt (hv:=?_)))
  exfalso
  simp_all
 refine jU 67810 ?_;refine jqo (jrdoA 11) ?_
 refine jqe (jecP (hS (by omega) (by omega)) ?_ (ho:=rfl) (he:=(.cons (se rfl (CEnt.agg rfl (fun j hj=>by rcases j with _|_|_|_|_|_|_|_|_|_|_|j <;> exact cZ))) .nil)))
 refine jU 530 ?_;refine jcc (fun h48=>?_) fun h48=>?_
 ·exfalso;exact absurd h48 (by decide)
 refine jU 16810 ?_
 refine jqe (jecP (read11_ac c hr (by omega)) ?_)
 refine jU 9009001 ?_
 refine jqe (jeal (n:=11) zr84 rfl fun p2=>?_)
 refine jqm (jmstF 11 (certF c) ?_ ?_)
 ·exact (fun j hj=>by rcases j with _|_|_|_|_|_|_|_|_|_|_|j <;> first|exact cZ|omega)
 refine jU 751 ?_;refine jcd (.rd 0 (.rd 1 (.rd 2 (.rd 3 (.rd 4 (.rd 5 (.one 6 (.rd 7 (.rd 8 (.rd 9 (.rd 10 (.rd 11 (.rd 12 (.rd 13 (.rd 14 (.rd 15 (.rd 16 (.one 17 (.rd 18 (.rd 19 .done)))))))))))))))))))) ?_;refine jU 70 ?_;refine jyq jre ?_;refine jU 70 ?_;refine jysp 45 (fun g52=>?_) fun g52=>?_
 rotate_left
 ·refine jU 600600600 ?_;refine jys1 ?_;refine jU 6006007030000060060070300000600600 ?_;refine jys1 ?_;refine jU 88070300000 ?_
  refine jR (jrt (hv:=?_))
  refine cB ?_
  (simp_all;done)
 refine jU 3000000070 ?_;refine jyo (jrdoA 11) ?_
 refine jye (jecP (rbody11_ac hr) ?_ (ho:=rfl) (he:=(.cons (se rfl (CEnt.agg rfl (fun j hj=>by rcases j with _|_|_|_|_|_|_|_|_|_|_|j <;> exact cZ))) .nil)))
 refine jyq jrbs ?_;refine jyq jrcs ?_;refine jU 703000000 ?_;refine jysp 53 (fun g52_2=>?_) fun g52_2=>?_
 rotate_left
 ·refine jU 60060070300000600600 ?_;refine jys1 ?_;refine jU 88070300000 ?_
  refine jR (jrt (hv:=?_))
  refine cB ?_
  (simp_all;done)
 refine jU 70 ?_;refine jyq jre ?_;refine jU 703000000 ?_;refine jysp 57 (fun g52_3=>?_) fun g52_3=>?_
 ·refine jyo (jrdoA 11) ?_;refine jyo (jrdoA 11) ?_
  refine jye (jecP (rsame11_ac c) ?_ (ho:=rfl) (he:=(.cons (se rfl (CEnt.agg rfl (fun j hj=>by rcases j with _|_|_|_|_|_|_|_|_|_|_|j <;> exact cZ))) (.cons (se rfl (CEnt.agg rfl (fun j hj=>by rcases j with _|_|_|_|_|_|_|_|_|_|_|j <;> exact cZ))) .nil))))
  refine jU 880703000000 ?_
  refine jR (jrt (hv:=?_))
  refine cB ?_
  rfl
 refine jU 600600 ?_;refine jys1 ?_;refine jU 88070300000 ?_
 refine jR (jrt (hv:=?_))
 refine cB ?_
 (simp_all;done)
set_option maxHeartbeats 4000000 in
theorem certBodyF_ac (c:C11) (hr:rightC c=false):ACp gs Tryz.prog 8 [.agg 11 (certF c)] (.c (.bool true)):=by
 have hB:=fun h=>body11_ac (gs:=gs) c h
 have hR:=fun h=>right11_ac (gs:=gs) c h
 have hS:=fun h1 h2=>rright11_ac (gs:=gs) c h1 h2
 rw [hr] at hR hS
 simp only [hr,if_false,Bool.false_eq_true] at hB
 refine ac_of 62 Tryz.func8 rfl rfl rfl (fun al w0 F0 St0=>?_)
 refine jcr ?_
 refine jqe (jebx 11 fun p1=>?_)
 refine jU 6751 ?_
 refine jqe (jecP alive11_ac ?_)
 refine jU 530 ?_;refine jcc (fun h38=>?_) fun h38=>?_
 ·exfalso;exact absurd h38 (by decide)
 refine jU 7810 ?_;refine jE (blk_ent 0 (m:=11) (F:=certF c) rfl (by decide) (fun _=>rfl) (fun j hj=>CEnt.of_eq (fl_map _ hj))) ?_;refine jcr ?_;refine jqo (jrdoA 11) ?_
 refine jqe (jecP (long11_ac c) ?_ (ho:=rfl) (he:=(.cons (se rfl (CEnt.agg rfl (fun j hj=>by rcases j with _|_|_|_|_|_|_|_|_|_|_|j <;> exact cZ))) .nil)))
 refine jU 5 ?_;refine jcc (fun h41=>?_) fun h41=>?_
 ·refine jU 516 ?_
  refine jR (jtr (jrt (hv:=cZ)))
 refine jU 810 ?_
 have hlo:longC c=false:=by simp_all
 have hb:c.al.length≤20∧c.iss.length≤100∧c.ky.length≤100:=by unfold longC at hlo;simp at hlo;omega
 refine jcr ?_;refine jqo (jrdoA 11) ?_
 refine jqe (jecP (hB (by omega)) ?_ (ho:=rfl) (he:=(.cons (se rfl (CEnt.agg rfl (fun j hj=>by rcases j with _|_|_|_|_|_|_|_|_|_|_|j <;> exact cZ))) .nil)))
 refine jU 775119009001 ?_;refine jcd (.rd 0 (.rd 2 (.one 1 (.one 3 (.rd 4 (.rd 5 (.rd 6 (.rd 7 (.one 8 (.rd 9 (.rd 10 .done))))))))))) ?_;refine jyo (jrdoA 11) ?_;refine jyo (jrdoA 11) ?_
 refine jye (jecP (hR (by omega)) ?_ (ho:=rfl) (he:=(.cons (se rfl (CEnt.agg rfl (fun j hj=>by rcases j with _|_|_|_|_|_|_|_|_|_|_|j <;> exact cZ))) .nil)))
 refine jye (jecP (hS (by omega) (by omega)) ?_ (ho:=rfl) (he:=(.cons (se rfl (CEnt.agg rfl (fun j hj=>by rcases j with _|_|_|_|_|_|_|_|_|_|_|j <;> exact cZ))) .nil)))
 refine jyq jrcb ?_;refine jU 70 ?_;refine jysp 21 (fun g45=>?_) fun g45=>?_
 ·refine jU 600600 ?_;refine jys1 ?_;refine jU 51690008803000000600 ?_
  refine jR (jtr (jrt (hv:=?_)))
  exfalso
  simp_all
 refine jyo (jrdoA 11) ?_;refine jyo (jrdoA 11) ?_
 refine jye (jecP (same11_ac c) ?_ (ho:=rfl) (he:=(.cons (se rfl (CEnt.agg rfl (fun j hj=>by rcases j with _|_|_|_|_|_|_|_|_|_|_|j <;> exact cZ))) (.cons (se rfl (CEnt.agg rfl (fun j hj=>by rcases j with _|_|_|_|_|_|_|_|_|_|_|j <;> exact cZ))) .nil))))
 refine jU 880300000100000 ?_;refine jcc (fun h45=>?_) fun h45=>?_
 ·refine jU 516 ?_
  refine jR (jtr (jrt (hv:=?_)))
  exfalso
  simp_all
 refine jU 67810 ?_;refine jqo (jrdoA 11) ?_
 refine jqe (jecP (hS (by omega) (by omega)) ?_ (ho:=rfl) (he:=(.cons (se rfl (CEnt.agg rfl (fun j hj=>by rcases j with _|_|_|_|_|_|_|_|_|_|_|j <;> exact cZ))) .nil)))
 refine jU 530 ?_;refine jcc (fun h48=>?_) fun h48=>?_
 rotate_left
 ·exfalso;exact absurd h48 (by decide)
 refine jU 12316 ?_;refine jqsp 33 (fun g49=>?_) fun g49=>?_
 ·refine jU 1 ?_
  refine jqe (jecP (num_ac 4 (by decide)) ?_)
  refine jU 5180002 ?_
  refine jR (jtr (jrt (hv:=?_)))
  refine cB ?_
  rfl
 refine jU 51500444 ?_
 refine jR (jtr (jrt (hv:=?_)))
 refine cB ?_
 (simp_all;done)
theorem certBody_ac (c:C11):ACp gs Tryz.prog 8 [.agg 11 (certF c)] (.c (.bool true)):=by
 cases hr:rightC c with
 | true=>exact certBodyT_ac c hr
 | false=>exact certBodyF_ac c hr
end
end
section
open Go.RowKit Go.ChangeShapes
def Opens (P:Program) (t:TypeId) (k:Nat) (D:Type) (φ:D→Prop) (E:D→Nat→CV):Prop :=
 ∀ (H:Type) (enc:TypeId×Value→H) (W:World) (fuel:Nat) (cs:List Value) (y:DataW H×List MemPlace),DataW.trod enc P W 0 (fun _=>true) true fuel t cs=some y →
  cs.length=k∧∃ x:D,φ x∧∀ al j,j<k→RepC al (fun b=>b<W.heap.size) W (E x j) (cs.getD j undef)
section
variable {P:Program} {t:TypeId}
theorem one_cell {al:List Addr} {W:World} {St:Nat→Prop} {c:Nat→CV} {v:Value} (h:RepC al St W (c 0) v):∀ j,j<1→RepC al St W (c j) ([v].getD j undef):=fun j hj=>by
 obtain rfl:j=0:=by omega
 exact h
theorem opens_i64 (hu:P.underlying t=some (.int .i64)):Opens P t 1 Int (fun z=>-9223372036854775808≤z∧z≤9223372036854775807) (fun z _=>.c (.int .i64 z)):=fun H enc W fuel cs y h=>by
 obtain ⟨n,rfl,_,hw⟩:=DataW.trod_int hu h
 exact ⟨rfl,n,bounds_i64 hw,fun al=>one_cell rfl⟩
theorem opens_slice {e:TypeId} {k:Nat} {D:Type} {φ:D→Prop} {E:D→Nat→CV} (d0:D) (ho:Opens P e k D φ E) (hu:P.underlying t=some (.slice e)) (hk:P.cellsOf e=k) (hk0:0<k) :
  Opens P t 1 (List D) (fun l=>l.length≤maxLen∧∀ x ∈ l,φ x) (fun l _=>.rs k l.length fun i j=>E (l.getD i d0) j):=fun H enc W fuel cs y h=>by
 rcases DataW.trod_slice hu h with ⟨rfl,_⟩|⟨a,len,cap,elems,rest,n,_,rfl,_,_,hle,hm,hl,hel,_⟩
 ·exact ⟨rfl,[],⟨by simp,by simp⟩,fun al=>one_cell ⟨none,0,rfl,Nat.le_refl _,by decide,fun _=>rfl,fun _ h=>by cases h⟩⟩
 ·refine ⟨rfl,?_⟩
  subst hk
  have key:∀ i,∃ x:D,i<len→φ x∧∀ al j,j<P.cellsOf e→∃ v,W.cell? (a.add (i * P.cellsOf e+j))=some v∧RepC al (fun b=>b<W.heap.size) W (E x j) v:=fun i=>by
   by_cases hi:i<len
   ·have h1:=hel i hi
    rw [List.getElem?_eq_getElem (by omega)] at h1
    obtain ⟨cs,h2,h3⟩:=Option.bind_eq_some_iff.1 h1
    obtain ⟨_,h4,h5⟩:=World.cells?_some h2
    obtain ⟨_,x,hx,hr⟩:=ho H enc W n cs _ h3
    refine ⟨x,fun _=>⟨hx,fun al j hj=>⟨cs.getD j undef,?_,hr al j hj⟩⟩⟩
    have:=h5 j hj
    rw [Addr.add_add] at this
    rw [this]
    simp [h4,hj]
   ·exact ⟨d0,fun h=>absurd h hi⟩
  obtain ⟨F,hF⟩:∃ F:Nat→D,∀ i,i<len→φ (F i)∧∀ al j,j<P.cellsOf e→∃ v,W.cell? (a.add (i * P.cellsOf e+j))=some v∧RepC al (fun b=>b<W.heap.size) W (E (F i) j) v :=
   ⟨fun i=>(key i).choose,fun i hi=>(key i).choose_spec hi⟩
  have hm':cap≤9223372036854775807:=by unfold maxLen at hm;omega
  refine ⟨(List.range len).map F,⟨by simp;omega,by simp only [List.mem_map,List.mem_range];rintro x ⟨i,hi,rfl⟩;exact (hF i hi).1⟩,fun al=>one_cell ?_⟩
  refine ⟨some a,cap,by simp,by simpa using hle,hm',by simp,fun b hb hn=>?_⟩
  cases hb
  simp at hn
  obtain ⟨v0,hv0,_⟩:=(hF 0 hn).2 al 0 hk0
  have hsp:a.spot=none:=by
   have:=World.cell?_spot hv0
   obtain ⟨b,o,sp⟩:=a
   simpa [Addr.add] using this
  refine ⟨hsp,?_,fun i j hi hj=>?_⟩
  ·have:=World.block_lt_of_cell? W _ hv0
   obtain ⟨b,o,sp⟩:=a
   simpa [Addr.add] using this
  ·simp at hi
   obtain ⟨v,hv,hr⟩:=(hF i hi).2 al j hj
   refine ⟨v,?_,by simpa [List.getD,hi] using hr⟩
   obtain ⟨b,o,sp⟩:=a
   simp only at hsp
   subst hsp
   rwa [Addr.add_lit] at hv
def OpensF (P:Program) (fs:List Field) (D:Type) (φ:D→Prop) (E:D→Nat→CV) (C:Nat→Bool):Prop :=
 ∀ (H:Type) (enc:TypeId×Value→H) (W:World) (cs:List Value),(∀ f ∈ fs,∃ n y,DataW.trod enc P W 0 (fun _=>true) true n f.type ((cs.drop f.offset).take (P.cellsOf f.type))=some y) →
  ∃ x:D,φ x∧∀ al j,C j=true→RepC al (fun b=>b<W.heap.size) W (E x j) (cs.getD j undef)
theorem opensF_nil:OpensF P [] Unit (fun _=>True) (fun _ _=>.top) (fun _=>false):=fun H enc W cs _=>⟨(),trivial,fun al j h=>by cases h⟩
theorem opensF_cons {f:Field} {fs:List Field} {k:Nat} {D1 D2:Type} {φ1:D1→Prop} {φ2:D2→Prop} {E1:D1→Nat→CV} {E2:D2→Nat→CV} {C2:Nat→Bool} (h1:Opens P f.type k D1 φ1 E1) (h2:OpensF P fs D2 φ2 E2 C2) :
  OpensF P (f::fs) (D1×D2) (fun x=>φ1 x.1∧φ2 x.2) (fun x j=>match Nat.ble f.offset j && Nat.blt j (f.offset+k) with|true=>E1 x.1 (j-f.offset)|false=>E2 x.2 j) (fun j=>(Nat.ble f.offset j && Nat.blt j (f.offset+k)) || C2 j):=fun H enc W cs h=>by
 obtain ⟨n,y,hy⟩:=h f (List.mem_cons_self ..)
 obtain ⟨hl,x1,p1,r1⟩:=h1 H enc W n _ y hy
 obtain ⟨x2,p2,r2⟩:=h2 H enc W cs fun g hg=>h g (List.mem_cons_of_mem _ hg)
 refine ⟨(x1,x2),⟨p1,p2⟩,fun al j hj=>?_⟩
 cases hb:Nat.ble f.offset j && Nat.blt j (f.offset+k) with
 | true =>
  have hb0:=hb
  simp only [Bool.and_eq_true] at hb
  have b1:f.offset≤j:=Nat.le_of_ble_eq_true hb.1
  have b2:j<f.offset+k:=Nat.le_of_ble_eq_true hb.2
  have:=r1 al (j-f.offset) (by omega)
  simp only [List.length_take,List.length_drop] at hl
  rw [List.getD_eq_getElem?_getD,List.getElem?_take,if_pos (by omega),List.getElem?_drop,show f.offset+(j-f.offset)=j by omega,← List.getD_eq_getElem?_getD] at this
  simp only [hb0]
  exact this
 | false =>
  simp only [hb,Bool.false_or] at hj
  simp only [hb]
  exact r2 al j hj
theorem opens_struct {fs:Array Field} {n:Nat} {D:Type} {φ:D→Prop} {E:D→Nat→CV} {C:Nat→Bool} (hu:P.underlying t=some (.struct fs)) (hn:P.cellsOf t=n) (ho:OpensF P fs.toList D φ E C) (hC:(List.range n).all C=true):Opens P t n D φ E:=fun H enc W fuel cs y h=>by
 obtain ⟨xs,m,_,_,hl,hlen,hf⟩:=DataW.trod_struct hu h
 obtain ⟨x,hx,hr⟩:=ho H enc W cs fun f hf'=>by
  obtain ⟨i,hi⟩:=List.mem_iff_getElem?.1 hf'
  rw [Array.getElem?_toList] at hi
  have:=hf i f hi
  have hlt:i<xs.length:=by rw [hlen];exact (Array.getElem?_eq_some_iff.1 hi).1
  rw [List.getElem?_eq_getElem hlt] at this
  exact ⟨m,_,this⟩
 exact ⟨hl.trans hn,x,hx,fun al j hj=>hr al j (List.all_eq_true.1 hC j (List.mem_range.2 hj))⟩
theorem arg_agg {n:Nat} {D:Type} {φ:D→Prop} {E:D→Nat→CV} (ho:Opens P t n D φ E) {H:Type} {enc:TypeId×Value→H} {W:World} {cs:Array Value} {d:DataW H} {p:List MemPlace} (h:DataW.Trod enc P W 0 (fun _=>true) true t (.agg cs) d p) :
  ∃ x:D,φ x∧∀ al,RepC al (fun b=>b<W.heap.size) W (.agg n (E x)) (.agg cs):=by
 obtain ⟨fuel,hf⟩:=h
 obtain ⟨hl,x,hx,hr⟩:=ho H enc W fuel _ _ hf
 refine ⟨x,hx,fun al=>⟨cs,rfl,by simpa [Value.cells] using hl,fun i hi=>?_⟩⟩
 have:=hr al i hi
 simpa [Value.cells] using this
end
end
section
open Go.RowKit Go.ChangeShapes
theorem opens_strL {P:Program} {t:TypeId} (hu:P.underlying t=some .string):Opens P t 1 (List UInt8) (fun s=>s.length≤maxLen) (fun z _=>strC z):=fun H enc W fuel cs y h=>by
 obtain ⟨n,rfl,_,hs⟩:=DataW.trod_string hu h
 obtain ⟨l,rfl⟩:=ba_list n
 exact ⟨rfl,l,hs,fun al=>one_cell rfl⟩
end
end Am
end Go.Proofs.YthlpfjnkieaeeaaGreatDoor
