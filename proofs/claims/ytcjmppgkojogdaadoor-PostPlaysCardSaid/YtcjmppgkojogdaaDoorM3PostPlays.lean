/- What the law leans on, part 3: W35w, Err, W35sb, W35x, W35y, W35, W35b, W35c, Num, NumC, L35p, L35q, L35r, Laid, Open, Open2 -/
import Derived.Test.YtcjmppgkojogdaaDoorM2PostPlays
import Derived.Stop.Asserts
import Derived.RowKitTokens
import Derived.Conc.LoneSelectN
import Derived.LaidEqlPtr
import Derived.Test.YtcjmppgkojogdaaDoorProg
import Derived.Conc.LoneCalls
import Derived.Conc.LoneSelect
import Derived.KernelRfl
import Derived.Laws.Rows
import Derived.Test.YtcjmppgkojogdaaDoorRows
import Derived.LaidLaws
import Derived.MakeChecks
import Derived.ChangeArms
import Derived.ChangeOld
import Derived.OpenShut

set_option maxRecDepth 100000
namespace Go.Proofs.YtcjmppgkojogdaaDoor
set_option linter.unusedVariables false
namespace Am
open Go.RowKit
section
variable {gs:List Nat} [OkG gs]

theorem ball_ac {gs:List Nat} (n room:Nat) (lost:Int) (l:List (List UInt8)) (hl:l.length≤room) (hr:room≤1000):AC gs Tryd.prog 27 [boxO n room lost l] [.op 0 (some n) 0] (fun r H'=>r=ssC l∧H'=[boxO n room lost l]):=by
 refine ac_oF 8 Tryd.func27 fun al w0 F0 St0=>?_;refine jcr ?_;refine jq jrm ?_;refine jN ?_;refine jcr ?_
 refine jqe (jeal (n:=1) zr32 rfl fun p1=>?_)
 refine jN ?_;refine code_knowG (know_op 3 rfl) fun ⟨q,hq⟩=>?_
 subst hq
 refine jE (newO q 1 rfl cZ) ?_;refine jE bag_new ?_;refine jE (bag_push 2 1 rfl rfl rfl) ?_;refine jE (bag_push 2 0 rfl rfl rfl) ?_
 dsimp only [List.set_cons_zero,List.set_cons_succ,List.cons_append,List.nil_append,List.length_cons,List.length_nil,Nat.zero_add,Nat.reduceAdd]
 refine jcr ?_;refine jq jrm ?_;refine jq jrmf ?_
 refine jqm (jmcE 2 (round_ac n q room lost l hl hr) ?_ (ho:=rfl) (he:=(.cons (se rfl cZ) (.cons (se rfl (CEnt.fn1 cP)) .nil))))
 refine jN ?_;refine jE (bag_pop 2 rfl) ?_;refine jE (bag_pop 2 rfl) ?_;refine jE (pick_ent (H':=[boxO n room lost l,outO q l]) [3,4] (by decide) rfl) ?_;refine code_openO 1 rfl fun g=>?_;refine jE (weaken 3 (.op 1 (some q) 0) cP) ?_;refine jcr ?_
 first|refine jqo jrdo ?_|refine jq jrdr ?_
 refine jq jrm ?_;refine jN ?_;refine jE (freeze 2 rfl) ?_;refine jE (thaw 2 (fun i _=>strC (l.getD i [])) rfl rfl (by omega) ss_thaw) ?_;refine jR ?_
 exact end_H (.inl rfl) rfl (res_1 rfl (arv_tmp rfl)) cZ
theorem btwice_ac {gs:List Nat} (n room:Nat) (lost:Int) (l:List (List UInt8)) (hl:l.length≤room) (hr:room≤1000):AC gs Tryd.prog 16 [boxO n room lost l] [.op 0 (some n) 0] (fun r H'=>r=.c (.bool (!l.isEmpty && decide (l.length<room)))∧H'=[boxO n room lost (if l.isEmpty then l else bxPut room (l.getD 0 []) l)]):=by
 refine ac_oF 16 Tryd.func16 fun al w0 F0 St0=>?_;refine jcr ?_;refine jq jrm ?_;refine jN ?_;refine jcr ?_;refine jq jrm ?_
 refine jqm (jmcE 0 (ball_ac n room lost l hl hr) ?_)
 refine jq jrm ?_;refine jN ?_;refine jcr ?_;refine jq jrm ?_;refine jq jrl ?_;refine jq jrc ?_;refine jq jrm ?_;refine jqsp 9 (fun g77=>?_) fun g77=>?_
 ·refine jq jrm ?_;refine jq jrm ?_;refine jq (jri (i:=0)) ?_
  first|refine jqo jrdo ?_|refine jq jrdr ?_
  refine jqm (jmcE 0 (bput_ac n room lost l (l.getD 0 [])) ?_)
  refine jq jrpT ?_;refine jq jrm ?_;refine jN ?_;refine jR ?_
  first
   |(obtain rfl:l=[]:=List.eq_nil_of_length_eq_zero (by omega)
     exact end_H (.inl rfl) rfl (res_1 rfl (arv_tmp rfl)) cZ)
   |(have hl:¬ l.isEmpty=true:=fun h=>by have:=List.isEmpty_iff.1 h;subst this;simp at g77
     rw [if_neg hl]
     exact end_H (.inl rfl) rfl (res_1 rfl (arv_tmp rfl)) (cB (by rw [Bool.eq_false_iff.2 hl];rfl)))
 refine jqs ?_;refine jqs ?_;refine jqs ?_;refine jqs ?_;refine jqs ?_;refine jq jrpF ?_;refine jq jrm ?_;refine jN ?_;refine jR ?_
 first
  |(obtain rfl:l=[]:=List.eq_nil_of_length_eq_zero (by omega)
    exact end_H (.inl rfl) rfl (res_1 rfl (arv_tmp rfl)) cZ)
  |(have hl:¬ l.isEmpty=true:=fun h=>by have:=List.isEmpty_iff.1 h;subst this;simp at g77
    rw [if_neg hl]
    exact end_H (.inl rfl) rfl (res_1 rfl (arv_tmp rfl)) (cB (by rw [Bool.eq_false_iff.2 hl];rfl)))
def firC (l1 l2:List (List UInt8)):CV:=.tup 3 (fl [strC (if l1.isEmpty then l2.headD [] else l1.headD []),.c (.int .i64 (if l1.isEmpty then (if l2.isEmpty then -1 else 2) else 1)),.c (.bool (!l1.isEmpty || !l2.isEmpty))])
def ptsC (n1 n2:Nat):CV:=.rs 1 3 fun i _=>fl [.c (.pointer none),.op 0 (some n1) 0,.op 0 (some n2) 0] i
def pk {α:Type} (i:Nat) (a b:α):α:=if i=1 then a else b
theorem pk_2 {α:Type} {i:Nat} (h:i≠1) (a b:α):pk i a b=b:=if_neg h
section
variable {P:Program} {G:Gh} {o:Oper} {s:AS} {env:List (Nat×CV)} {b0:Nat→CV} {n1 n2 r1 r2:Nat} {t1 t2:Int} {l1 l2:List (List UInt8)}
theorem pk_ent (i:Nat):EntS G ⟨env,b0,[boxO n1 r1 t1 l1,boxO n2 r2 t2 l2]⟩ ⟨env,b0,[boxO (pk i n1 n2) (pk i r1 r2) (pk i t1 t2) (pk i l1 l2),boxO (pk i n2 n1) (pk i r2 r1) (pk i t2 t1) (pk i l2 l1)]⟩:=by
 by_cases h:i=1
 ·subst h
  exact pick_ent [0,1] (by decide) rfl
 ·simp only [pk_2 h]
  exact pick_ent [1,0] (by decide) rfl
theorem pk_back (i:Nat) (n1 n2 r1 r2:Nat) (t1 t2:Int) (a b:List (List UInt8)):EntS G ⟨env,b0,[boxO (pk i n1 n2) (pk i r1 r2) (pk i t1 t2) a,boxO (pk i n2 n1) (pk i r2 r1) (pk i t2 t1) b]⟩ ⟨env,b0,[boxO n1 r1 t1 (pk i a b),boxO n2 r2 t2 (pk i b a)]⟩:=by
 by_cases h:i=1
 ·subst h
  exact pick_ent [0,1] (by decide) rfl
 ·simp only [pk_2 h]
  exact pick_ent [1,0] (by decide) rfl
theorem run_nil_nil {e:TypeId} {t:TypeId} (ht:P.underlying t=some (.pointer e)) (W:World):(Op.equal t (.pointer none) (.pointer none)).run P W=.ok true W:=by
 show (Op.equalIn 10000 t (.pointer none) (.pointer none)).run P W=_
 rw [show (10000:Nat)=9999+1 from rfl,Op.equalIn]
 simp only [underlying,Sem.run_bind,run_program,Result.andThen_ok,ht,Sem.run_pure]
 rfl
theorem rd_eqNil3 {t u e:TypeId} {x:Operand} {i:Nat} (ho:o.op=.binOp .eql t x (.const (.pointer none)) u) (hx:s.eval x=fl [.c (.pointer none),.op 0 (some n1) 0,.op 0 (some n2) 0] i) (hi:i<3) (h1:P.underlying t=some (.pointer e)):ARd P G o s (.c (.bool (decide (i=0)))):=by
 rcases i with _|_|_|i
 ·intro St a w h
  refine ⟨_,fun W _=>?_,rfl⟩
  simp only [execOp,ho,evC h hx]
  refine vOk ?_
  simp [eqG_ptr,binOp,run_nil_nil h1,Act.eval]
 ·exact rd_eqP ho hx rfl h1
 ·exact rd_eqP ho hx rfl h1
 ·omega
end
theorem bfirst_ac {gs:List Nat} (n1 r1 n2 r2:Nat) (t1 t2:Int) (l1 l2:List (List UInt8)):AC gs Tryd.prog 18 [bagE [boxO n1 r1 t1 l1,boxO n2 r2 t2 l2]] [ptsC n1 n2]
  (fun r H'=>r=firC l1 l2∧H'=[bagE [boxO n1 r1 t1 l1.tail,boxO n2 r2 t2 (if l1.isEmpty then l2.tail else l2)]]):=by
 refine ac_oF 29 Tryd.func18 fun al w0 F0 St0=>?_;refine jcr ?_;refine jq jrm ?_;refine jq jrm ?_;refine jq jrm ?_;refine jN ?_;refine jcs ?_
 first
  |(refine jE (bag_pop 0 rfl) ?_;refine jE (bag_pop 0 rfl) ?_;refine jE (pick_ent (H':=[boxO n1 r1 t1 l1,boxO n2 r2 t2 l2]) [1,2] (by decide) rfl) ?_)
  |(refine jE (pk_back i n1 n2 r1 r2 t1 t2 _ _) ?_)
  | skip
 refine jcr ?_;refine jq jrm ?_;refine jq jrl ?_;refine jq jrm ?_;refine jN ?_;refine jB ?_;refine l_loop (α:=Nat) [2,3,4,5,6,7,8,12,13,14,15,16,17,18,19,20,21,22,23,24,25,26,27] (fun i=>[(12,.c (.int .i64 (i:Nat)))]) (fun i=>[boxO n1 r1 t1 l1,boxO n2 r2 t2 l2]) (fun i=>i≤3∧(2≤i→l1=[])∧(3≤i→l2=[])) (fun i=>3-i) (0) ?_ (fun _=>rfl) ?_ ?_ ?_
 ·simp
 ·(repeat (first|exact EntE.nil|refine EntE.cons cZ ?_|refine EntE.cons (cI (by omega)) ?_))
 ·first
   | exact HEnt.refl _
   |(have h99':pk i l1 l2=[]:=by simpa using h99
     rcases hi0 with rfl|rfl
     ·obtain rfl:l1=[]:=h99'
      exact HEnt.refl _
     ·obtain rfl:l2=[]:=h99'
      exact HEnt.refl _)
 ·rintro i ⟨(hi:i≤3),hi1,hi2⟩
  first
   |(refine jE (bag_pop 0 rfl) ?_;refine jE (bag_pop 0 rfl) ?_;refine jE (pick_ent (H':=[boxO n1 r1 t1 l1,boxO n2 r2 t2 l2]) [1,2] (by decide) rfl) ?_)
   |(refine jE (pk_back i n1 n2 r1 r2 t1 t2 _ _) ?_)
   | skip
  refine jcr ?_;refine jq jrc ?_;refine jN ?_;refine jcs ?_;refine jcc (fun h95=>?_) fun h95=>?_
  rotate_left
  ·refine jX (jte (jte (jbx (jtn ?_))))
   refine jcr ?_;refine jq jrm ?_;refine jN ?_;refine jcr ?_;refine jq jrm ?_;refine jq jrm ?_;refine jq jrm ?_;refine jq jrm ?_;refine jN ?_;refine jR ?_
   obtain rfl:=hi1 (by omega)
   obtain rfl:=hi2 (by omega)
   exact end_pack (gd:=fun _:Unit=>0) (E:=fun _=>[boxO n1 r1 t1 [],boxO n2 r2 t2 []]) (.inl rfl) _ () [0,1] (by decide) rfl (res_3 rfl javt javt javt) ⟨rfl,rfl⟩
  refine jS (jtn ?_)
  refine jcs ?_;refine jB ?_
  first
   |(refine jE (bag_pop 0 rfl) ?_;refine jE (bag_pop 0 rfl) ?_;refine jE (pick_ent (H':=[boxO n1 r1 t1 l1,boxO n2 r2 t2 l2]) [1,2] (by decide) rfl) ?_)
   |(refine jE (pk_back i n1 n2 r1 r2 t1 t2 _ _) ?_)
   | skip
  refine jcr ?_;refine jq jrm ?_;refine jq jri ?_;refine jq (jrdr (hv:=rfl)) ?_;refine jq jrm ?_;refine jq jrm ?_;refine jN ?_;refine jcs ?_;refine jcr ?_;refine jq jrm ?_;refine jq (rd_eqNil3 rfl rfl (by omega) Tryd.underlying25) ?_;refine jN ?_;refine jcc (fun h96=>?_) fun h96=>?_
  ·refine jX (jte (jbx (jtn ?_)))
   first
    |(refine jE (bag_pop 0 rfl) ?_;refine jE (bag_pop 0 rfl) ?_;refine jE (pick_ent (H':=[boxO n1 r1 t1 l1,boxO n2 r2 t2 l2]) [1,2] (by decide) rfl) ?_)
    |(refine jE (pk_back i n1 n2 r1 r2 t1 t2 _ _) ?_)
    | skip
   refine jcg ?_;refine jq jra ?_;refine jq jrm ?_;refine jN ?_;refine jtn ?_
   refine jlend (i+1) ?_ ?_ (h7:=?_)
   ·first
     | exact ⟨by omega,fun h=>by omega,fun h=>by omega⟩
     |(have h99':pk i l1 l2=[]:=by simpa using h99
       rcases hi0 with rfl|rfl
       ·exact ⟨by omega,fun _=>h99',fun h=>by omega⟩
       ·exact ⟨by omega,fun _=>hi1 (by omega),fun _=>h99'⟩)
   ·omega
   ·first
     | exact HEnt.refl _
     |(have h99':pk i l1 l2=[]:=by simpa using h99
       rcases hi0 with rfl|rfl
       ·obtain rfl:l1=[]:=h99'
        exact HEnt.refl _
       ·obtain rfl:l2=[]:=h99'
        exact HEnt.refl _)
  refine jS (jtn ?_)
  have hi0:i=1∨i=2:=by omega
  first
   |(refine jE (pk_ent (n1:=n1) (n2:=n2) (r1:=r1) (r2:=r2) (t1:=t1) (t2:=t2) (l1:=l1) (l2:=l2) i) ?_;refine jE (weaken 6 (.op 0 (some (pk i n1 n2)) 0) (by rcases hi0 with rfl|rfl <;> exact cZ)) ?_)
   | skip
  refine jcr ?_;refine jq jrm ?_
  refine jqm (jmcE 0 (btake_ac (pk i n1 n2) (pk i r1 r2) (pk i t1 t2) (pk i l1 l2)) ?_)
  refine jq jrm ?_;refine jq jrx ?_;refine jq jrx ?_;refine jq jrm ?_;refine jq jrm ?_;refine jN ?_
  have hi0:i=1∨i=2:=by omega
  first
   |(refine jE (pk_ent (n1:=n1) (n2:=n2) (r1:=r1) (r2:=r2) (t1:=t1) (t2:=t2) (l1:=l1) (l2:=l2) i) ?_;refine jE (weaken 6 (.op 0 (some (pk i n1 n2)) 0) (by rcases hi0 with rfl|rfl <;> exact cZ)) ?_)
   | skip
  refine jcr ?_;refine jq jrm ?_;refine jN ?_;refine jcc (fun h99=>?_) fun h99=>?_
  ·refine jcr ?_;refine jq jrm ?_;refine jq jrm ?_;refine jq jrm ?_;refine jq jrm ?_;refine jq jrm ?_;refine jN ?_
   refine jR (jbr (jtr (jtr (jbr (jtr ?_)))))
   have h99':pk i l1 l2≠[]:=by simpa using h99
   rcases hi0 with rfl|rfl
   ·cases l1 with
    | nil=>exact absurd rfl h99'
    | cons x l1=>exact end_pack (gd:=fun _:Unit=>0) (E:=fun _=>[boxO n1 r1 t1 l1,boxO n2 r2 t2 l2]) (.inl rfl) _ () [0,1] (by decide) rfl (res_3 rfl javt javt javt) ⟨rfl,rfl⟩
   ·obtain rfl:=hi1 (by omega)
    cases l2 with
    | nil=>exact absurd rfl h99'
    | cons x l2=>exact end_pack (gd:=fun _:Unit=>0) (E:=fun _=>[boxO n1 r1 t1 [],boxO n2 r2 t2 l2]) (.inl rfl) _ () [1,0] (by decide) rfl (res_3 rfl javt javt javt) ⟨rfl,rfl⟩
  refine jS (jbn (jtn ?_))
  first
   |(refine jE (bag_pop 0 rfl) ?_;refine jE (bag_pop 0 rfl) ?_;refine jE (pick_ent (H':=[boxO n1 r1 t1 l1,boxO n2 r2 t2 l2]) [1,2] (by decide) rfl) ?_)
   |(refine jE (pk_back i n1 n2 r1 r2 t1 t2 _ _) ?_)
   | skip
  refine jcg ?_;refine jq jra ?_;refine jq jrm ?_;refine jN ?_;refine jtn ?_
  refine jlend (i+1) ?_ ?_ (h7:=?_)
  ·first
    | exact ⟨by omega,fun h=>by omega,fun h=>by omega⟩
    |(have h99':pk i l1 l2=[]:=by simpa using h99
      rcases hi0 with rfl|rfl
      ·exact ⟨by omega,fun _=>h99',fun h=>by omega⟩
      ·exact ⟨by omega,fun _=>hi1 (by omega),fun _=>h99'⟩)
  ·omega
  ·first
    | exact HEnt.refl _
    |(have h99':pk i l1 l2=[]:=by simpa using h99
      rcases hi0 with rfl|rfl
      ·obtain rfl:l1=[]:=h99'
       exact HEnt.refl _
      ·obtain rfl:l2=[]:=h99'
       exact HEnt.refl _)
end
end Am
end Go.Proofs.YtcjmppgkojogdaaDoor
namespace Go.Proofs.YtcjmppgkojogdaaDoor
set_option linter.unusedVariables false
open Go.RowKit Go.Extern.Stop Go.Stop Go.Extern

theorem isTypeOf (v:Value) (w:World):(callFunc 32 #[.iface 77 v]).run Tryd.prog w=.ok (.value (.iface 68 (.agg #[.pointer (some ⟨28,77,none⟩)]))) w:=by kernel_rfl
theorem isComparable (w:World):(callFunc 60 #[.agg #[.pointer (some ⟨28,77,none⟩)]]).run Tryd.prog w=.ok (.value (.bool true)) w:=by kernel_rfl
theorem isMethodComparable (v : Value) (w : World) : (Go.method 219 68 v "Comparable").run Tryd.prog w = .ok (60, v) w := by kernel_rfl
theorem isComp:(Tryd.prog.info? 77).map (·.comparable)=some true:=by kernel_rfl
theorem isSize:(Tryd.prog.info? 105).map (·.size)=some 1:=by kernel_rfl
theorem noIsE (v:Value) (xT:TypeId) (w:World):(Instr.typeAssert (.iface 77 v) xT 70 true).run Tryd.prog w=.ok (.tuple #[.nilIface,.bool false]) w:=run_typeAssert_lacksB Tryd.underlying70 (by kernel_rfl) (by kernel_rfl) v xT w
theorem noUnwrapE (v:Value) (xT:TypeId) (w:World):(Instr.typeAssert (.iface 77 v) xT 73 true).run Tryd.prog w=.ok (.tuple #[.nilIface,.bool false]) w:=run_typeAssert_lacksB Tryd.underlying73 (by kernel_rfl) (by kernel_rfl) v xT w
theorem noUnwrapsE (v:Value) (xT:TypeId) (w:World):(Instr.typeAssert (.iface 77 v) xT 75 true).run Tryd.prog w=.ok (.tuple #[.nilIface,.bool false]) w:=run_typeAssert_lacksB Tryd.underlying75 (by kernel_rfl) (by kernel_rfl) v xT w

set_option maxHeartbeats 400000 in
theorem is_same (a:Addr) (w:World) :
  Calls Tryd.prog 25 #[.iface 77 (.pointer (some a)),.iface 77 (.pointer (some a))] w fun e w'=>e=.returned (.bool true)∧w=w':=by
 obtain ⟨i,hi,hcmp⟩:=Option.map_eq_some_iff.1 isComp
 obtain ⟨j,hj,hjs⟩:=Option.map_eq_some_iff.1 isSize
 have tT:=isTypeOf
 have cT:=isComparable
 have mR:=isMethodComparable
 have heq:=run_eql_iface_ptr_same (P:=Tryd.prog) w a Tryd.underlying27 Tryd.underlying77 hi hcmp hj
 go_enter Tryd.func25,Tryd.ntmps25
 go_wp2
 refine wp_loop_rounds 1 ?_
 rw [rounds_succ]
 go_wp2
 go_ret
 exact ⟨rfl,rfl⟩

set_option maxHeartbeats 400000 in
theorem is_other (a b:Addr) (ca cb:Array Value) (ta tb:TypeId) (w:World) (hne:a≠b) (ha:w.heap[a.block]?=some (.cells ca ta (0,0))) (hb:w.heap[b.block]?=some (.cells cb tb (0,0))) :
  Calls Tryd.prog 25 #[.iface 77 (.pointer (some a)),.iface 77 (.pointer (some b))] w fun e w'=>e=.returned (.bool false)∧w=w':=by
 obtain ⟨i,hi,hcmp⟩:=Option.map_eq_some_iff.1 isComp
 obtain ⟨j,hj,hjs⟩:=Option.map_eq_some_iff.1 isSize
 have tT:=isTypeOf
 have cT:=isComparable
 have mR:=isMethodComparable
 have nE:=noIsE
 have uE:=noUnwrapE
 have vE:=noUnwrapsE
 have heq:=run_eql_iface_ptr_other (P:=Tryd.prog) w Tryd.underlying27 Tryd.underlying77 hi hcmp hj (by rw [hjs];decide) hne ha hb
 go_enter Tryd.func25,Tryd.ntmps25
 go_wp2
 refine wp_loop_rounds 1 ?_
 rw [rounds_succ]
 go_wp2
 go_ret
 exact ⟨rfl,rfl⟩

theorem is_ev {w:World} {al:List Addr} (h:Sent w al) (m k:Nat) (hm0:m≠0) (hm:m≤28) (hk:k<28) :
  Calls Tryd.prog 25 #[ev al m,ev al (k+1)] w fun e w'=>e=.returned (.bool (decide (m=k+1)))∧w=w':=by
 have hl:al.length=28:=h.len.trans (by rw [OkG.eq];rfl)
 obtain ⟨a,ha⟩:∃ a,al[m-1]?=some a:=⟨al[m-1],List.getElem?_eq_getElem (by omega)⟩
 obtain ⟨b,hb⟩:∃ b,al[k]?=some b:=⟨al[k],List.getElem?_eq_getElem (by omega)⟩
 have e1:ev al m=.iface 77 (.pointer (some a)):=by simp [ev,hm0,ha]
 have e2:ev al (k+1)=.iface 77 (.pointer (some b)):=by simp [ev,hb]
 rw [e1,e2]
 by_cases hmk:m=k+1
 ·subst hmk
  simp only [Nat.add_sub_cancel] at ha
  obtain rfl:=Option.some.inj (ha.symm.trans hb)
  simp only [decide_true]
  exact is_same a w
 ·have hne:a≠b:=by
   intro e
   subst e
   have all:∀ i,i<28→((errG gs)[i]?).any (fun g=>(lst gs).contains g)=true:=by decide
   have get:∀ i,i<28→∃ g,(errG gs)[i]?=some g∧g ∈ lst gs:=fun i hi=>by
    have h1:=all i hi
    cases h2:(errG gs)[i]? with
    | none=>rw [h2] at h1;cases h1
    | some g=>rw [h2] at h1;exact ⟨g,rfl,List.contains_iff_mem.1 h1⟩
   obtain ⟨g1,k1,k2⟩:=get (m-1) (by omega)
   obtain ⟨g2,k3,k4⟩:=get k hk
   have:=h.nd (m-1) k g1 g2 k1 k2 k3 k4 (ha.trans hb.symm)
   omega
  simp only [hmk,decide_false]
  obtain ⟨ca,ta,h1⟩:=h.row a (List.mem_of_getElem? ha)
  obtain ⟨cb,tb,h2⟩:=h.row b (List.mem_of_getElem? hb)
  exact is_other a b ca cb ta tb w hne h1 h2
end Go.Proofs.YtcjmppgkojogdaaDoor
namespace Go.Proofs.YtcjmppgkojogdaaDoor
open Go.Conc Go.RowKit

set_option maxHeartbeats 400000 in
theorem lost35s_any {w:World} {g:Nat} {n:Int} (h1:w.cell? ⟨g,1,none⟩=some (.int .i64 n)) :
  Calls Tryd.prog 29 #[.pointer (some ⟨g,0,none⟩)] w fun e w'=>e=.returned (.int .i64 n)∧w'=w:=by
 go_enter Tryd.func29,Tryd.ntmps29
 go_wp2
 go_ret
 exact ⟨rfl,rfl⟩
set_option maxHeartbeats 400000 in
theorem len35s_any {w:World} {g c cap s r:Nat} {buf:Array Value} (h0:w.cell? ⟨g,0,none⟩=some (.chan (some c))) (hc:w.heap[c]?=some (.chan cap buf false s r false))  :
  Calls Tryd.prog 28 #[.pointer (some ⟨g,0,none⟩)] w fun e w'=>e=.returned (.int .i64 buf.size)∧w'=w:=by
 have hl:=run_len_chan (P:=Tryd.prog) 50 3 Tryd.underlying50 hc
 simp only [goInt] at hl
 go_enter Tryd.func28,Tryd.ntmps28
 go_wp2
 go_ret
 exact ⟨rfl,rfl⟩
end Go.Proofs.YtcjmppgkojogdaaDoor
namespace Go.Proofs.YtcjmppgkojogdaaDoor
set_option linter.unusedVariables false
namespace Am
open Go.RowKit
section
variable {gs:List Nat} [OkG gs]
section
variable {P:Program} {G:Gh} {o:Oper} {env:List (Nat×CV)} {b0:Nat→CV} {H:List (Option Nat×Res)} {K:AS→Prop} {x:Operand} {i j n c room:Nat} {lost:Int} {l:List (List UInt8)} {f:Nat→CV}
theorem cells_at {St:Nat→Prop} {a:Act} {w:World} (h:RelSt G St ⟨env,b0,H⟩ a w) (hi:H[i]?=some (some n,.blk 2 (boxF c lost))):w.cell? ⟨n,0,none⟩=some (.chan (some c))∧w.cell? ⟨n,1,none⟩=some (.int .i64 lost)∧∃ cur t,w.heap[n]?=some (.cells cur t (0,0)):=by
 obtain ⟨fp,hp⟩:=h.hp
 obtain ⟨a0,cur,t,a1,a2,a3⟩:=hp.rep i _ _ hi
 have h3:cur.getD 0 undef=.chan (some c):=a3 0 (by omega)
 have h4:cur.getD 1 undef=.int .i64 lost:=a3 1 (by omega)
 have k0:0<cur.size:=by omega
 have k1:1<cur.size:=by omega
 refine ⟨?_,?_,cur,t,a1⟩
 ·rw [cell_of_row w n _ cur t _ a1]
  simp [k0] at h3 ⊢
  exact h3
 ·rw [cell_of_row w n _ cur t _ a1]
  simp [k1] at h4 ⊢
  exact h4
theorem ex_still {f:FuncId} {m:CV} {v:Value} {q d:Nat} {ats:Array TypeId} (ho:o.op=.call ⟨.value (.func f),#[x],ats⟩) (hc:calleeB P f=true) (hx:(⟨env,b0,H⟩:AS).eval x=.op q (some n) 0) (hd:o.dst=some d) (hN:Nat.blt d G.N=true)
  (h:∀ St a w,RelSt G St ⟨env,b0,H⟩ a w→Calls P f #[.pointer (some ⟨n,0,none⟩)] w fun e w'=>e=.returned v∧w'=w) (hv:∀ al St w,RepC al St w m v) (hK:K ⟨(d,m)::env,b0,H⟩):AEx P G o ⟨env,b0,H⟩ K:=fun St a w hr Q=>by
 obtain ⟨b,hb,e0⟩:=evR hr hx
 obtain rfl:=Option.some.inj hb
 unfold Oper.wp
 rw [exec_call ho hc]
 have e1:(#[x]:Array Operand).map a.eval=#[.pointer (some ⟨n,0,none⟩)]:=by simp [e0]
 show Calls P f ((#[x]:Array Operand).map a.eval) w _
 rw [e1]
 refine (h St a w hr).mono ?_
 rintro e w' ⟨rfl,rfl⟩
 refine ⟨Below.refl _ _,St,fun _ h=>h,_,hK,?_⟩
 have:=hr.put (dst:=some d) (v:=m) (x:=v) (fun e he=>by obtain rfl:=Option.some.inj he;exact Nat.le_of_ble_eq_true hN) (hv _ _ _)
 rw [hd]
 exact this
theorem e_blen {q d:Nat} {ats:Array TypeId} (i j:Nat) (hK:K ⟨(d,.c (.int .i64 (l.length:Nat)))::env,b0,H⟩) (ho:o.op=.call ⟨.value (.func 28),#[x],ats⟩:=by exact rfl) (hx:(⟨env,b0,H⟩:AS).eval x=.op q (some n) 0:=by exact rfl) (hi:H[i]?=some (some n,.blk 2 (boxF c lost)):=by exact rfl) (hj:H[j]?=some (some c,.obj (chanO room l)):=by exact rfl) (hd:o.dst=some d:=by exact rfl) (hN:Nat.blt d G.N=true:=by exact rfl):AEx Tryd.prog G o ⟨env,b0,H⟩ K :=
 ex_still (v:=.int .i64 (l.length:Nat)) (m:=.c (.int .i64 (l.length:Nat))) ho (by kernel_rfl) hx hd hN (fun St a w hr=>by
  obtain ⟨h0,_,_⟩:=cells_at hr hi
  obtain ⟨_,s,r,hc⟩:=chanAt hr hj
  rw [← txsV_size l]
  exact len35s_any h0 hc) (fun _ _ _=>rfl) hK
theorem e_blost {q d:Nat} {ats:Array TypeId} (i:Nat) (hK:K ⟨(d,.c (.int .i64 lost))::env,b0,H⟩) (ho:o.op=.call ⟨.value (.func 29),#[x],ats⟩:=by exact rfl) (hx:(⟨env,b0,H⟩:AS).eval x=.op q (some n) 0:=by exact rfl) (hi:H[i]?=some (some n,.blk 2 (boxF c lost)):=by exact rfl) (hd:o.dst=some d:=by exact rfl) (hN:Nat.blt d G.N=true:=by exact rfl):AEx Tryd.prog G o ⟨env,b0,H⟩ K :=
 ex_still (v:=.int .i64 lost) (m:=.c (.int .i64 lost)) ho (by kernel_rfl) hx hd hN (fun St a w hr=>lost35s_any (cells_at hr hi).2.1) (fun _ _ _=>rfl) hK
theorem run_ne_ptr {tp te:TypeId} {j:TypeInfo} {a b:Addr} {ca cb:Array Value} {ta tb:TypeId} {w:World} (hp:P.underlying tp=some (.pointer te)) (hte:P.info? te=some j) (hsz:j.size≠0) (hne:a≠b) (ha:w.heap[a.block]?=some (.cells ca ta (0,0))) (hb:w.heap[b.block]?=some (.cells cb tb (0,0))) :
  (binOp .neq tp (.pointer (some a)) (.pointer (some b))).run P w=.ok (.bool true) w:=by
 have h:∀ d:Nat,(Op.equalIn (d+1) tp (.pointer (some a)) (.pointer (some b))).run P w=.ok false w:=fun d=>by
  simp [Op.equalIn,run_underlying hp,sizeOf,typeInfo,hte,hsz,run_sameAddr_other w hne ha hb]
 simp only [binOp]
 simp [Op.equal,Op.maxDepth,h 9999]
theorem rd_neBox {t u e:TypeId} {x y:Operand} {q1 q2 n1 n2 c1 c2 i j:Nat} {l1 l2:Int} (ho:o.op=.binOp .neq t x y u) (hx:(⟨env,b0,H⟩:AS).eval x=.op q1 (some n1) 0) (hy:(⟨env,b0,H⟩:AS).eval y=.op q2 (some n2) 0) (hi:H[i]?=some (some n1,.blk 2 (boxF c1 l1))) (hj:H[j]?=some (some n2,.blk 2 (boxF c2 l2))) (hij:i≠j)
  (ht:P.underlying t=some (.pointer e)) (hs:(P.info? e).map (·.size)=some 2):ARdO P G o ⟨env,b0,H⟩ (.c (.bool true)):=fun St a w h=>by
 obtain ⟨b1,hb1,e1⟩:=evR h hx
 obtain rfl:=Option.some.inj hb1
 obtain ⟨b2,hb2,e2⟩:=evR h hy
 obtain rfl:=Option.some.inj hb2
 obtain ⟨fp,hp⟩:=h.hp
 obtain ⟨a0,cur,t1,a1,_⟩:=hp.rep i _ _ hi
 obtain ⟨d0,cur2,t2,d1,_⟩:=hp.rep j _ _ hj
 have hne:n1≠n2:=fun e=>hij (hp.dis i j n1 ((a0 n1).2 rfl) ((d0 n1).2 e))
 obtain ⟨info,hinfo,hsz⟩:=Option.map_eq_some_iff.1 hs
 refine ⟨.bool true,fun W hW=>?_,rfl⟩
 have k1:=(hW.block n1 (Array.getElem?_eq_some_iff.1 a1).1).trans a1
 have k2:=(hW.block n2 (Array.getElem?_eq_some_iff.1 d1).1).trans d1
 simp only [execOp,ho,e1,e2]
 refine vOk ?_
 simp [eqG_ptr,run_ne_ptr (a:=⟨n1,0,none⟩) (b:=⟨n2,0,none⟩) ht hinfo (by omega) (by simp [hne]) k1 k2]
end
theorem bmove_ac {gs:List Nat} (n1 r1 n2 r2:Nat) (t1 t2:Int) (l1 l2:List (List UInt8)) (h2:l2.length≤r2):AC gs Tryd.prog 19 [bagE [boxO n1 r1 t1 l1,boxO n2 r2 t2 l2]] [.op 0 (some n1) 0,.op 0 (some n2) 0]
  (fun r H'=>r=.c (.bool (!l1.isEmpty && decide (l2.length<r2)))∧H'=[bagE [boxO n1 r1 t1 (if l2.length<r2 then l1.tail else l1),boxO n2 r2 t2 (if l1.isEmpty then l2 else bxPut r2 (l1.headD []) l2)]]):=by
 refine ac_oF 33 Tryd.func19 fun al w0 F0 St0=>?_;refine jcr ?_;refine jq jrm ?_;refine jN ?_;refine jcs ?_;refine jcs ?_;refine jE (bag_pop 0 rfl) ?_;refine jE (bag_pop 0 rfl) ?_;refine jE (pick_ent (H':=[boxO n1 r1 t1 l1,boxO n2 r2 t2 l2]) [1,2] (by decide) rfl) ?_;refine code_openB 0 rfl fun c1=>?_;refine code_openB 1 rfl fun c2=>?_;refine jE (weaken 1 (.op 1 (some n2) 0) cP) ?_
 dsimp only [List.set_cons_zero,List.set_cons_succ,List.cons_append,List.nil_append,List.length_cons,List.length_nil,Nat.zero_add,Nat.reduceAdd]
 refine jcd (.rd 0 (.one 1 (.rd 2 (.rd 3 (.rd 4 (.rd 5 (.rd 6 (.rd 7 (.rd 8 (.rd 10 (.rd 11 (.rd 12 (.rd 13 (.one 9 (.rd 14 (.rd 15 (.rd 16 (.rd 17 .done)))))))))))))))))) ?_;refine jyq jrm ?_
 refine jye (e_blen 0 2 ?_)
 refine jyq jrc ?_;refine jyq jrm ?_;refine jysp 10 (fun g109=>?_) fun g109=>?_
 ·refine jys ?_;refine jys ?_;refine jys ?_;refine jys ?_;refine jys ?_;refine jys ?_;refine jys ?_;refine jys ?_;refine jys ?_;refine jys1 ?_;refine jys ?_;refine jys ?_;refine jys ?_;refine jyq jrpT ?_;refine jyd ?_;refine jtn ?_;refine jcT ?_;refine jE (closeB n1 r1 t1 l1 0 2 rfl rfl rfl (by decide) cZ cZ) ?_;refine jE (closeB n2 r2 t2 l2 1 3 rfl rfl rfl (by decide) cZ cZ) ?_;refine jE (pick_ent (H':=[boxO n1 r1 t1 l1,boxO n2 r2 t2 l2]) [0,1] (by decide) rfl) ?_;refine jcr ?_;refine jq jrm ?_;refine jN ?_
  refine jR (jtr ?_)
  by_cases hl1:l1.isEmpty=true
  ·obtain rfl:l1=[]:=List.isEmpty_iff.1 hl1
   have e:(if l2.length<r2 then ([]:List (List UInt8)).tail else [])=[]:=ite_self _
   rw [e]
   exact end_pack (gd:=fun _:Unit=>0) (E:=fun _=>[boxO n1 r1 t1 [],boxO n2 r2 t2 l2]) (.inl rfl) (.c (.bool false)) () [0,1] (by decide) rfl ((res_1 rfl javt).ent (cB rfl)) ⟨rfl,rfl⟩
  ·have hl2:¬ l2.length<r2:=by first|omega|exact absurd (by rw [List.eq_nil_of_length_eq_zero (show l1.length=0 by omega)];rfl) hl1
   have e:(if l2.length<r2 then l1.tail else l1)=l1:=if_neg hl2
   have e2:(if l1.isEmpty=true then l2 else bxPut r2 (l1.headD []) l2)=l2:=by rw [if_neg hl1];exact if_neg hl2
   rw [e,e2]
   exact end_pack (gd:=fun _:Unit=>0) (E:=fun _=>[boxO n1 r1 t1 l1,boxO n2 r2 t2 l2]) (.inl rfl) (.c (.bool (!l1.isEmpty && decide (l2.length<r2)))) () [0,1] (by decide) rfl ((res_1 rfl javt).ent (cB (by rw [decide_eq_false hl2,Bool.and_false]))) ⟨rfl,rfl⟩
 refine jyq jrm ?_;refine jyq jrm ?_;refine jyo (rd_neBox (i:=0) (j:=1) rfl rfl rfl rfl rfl (by decide) Tryd.underlying25 (by kernel_rfl)) ?_;refine jyq jrm ?_;refine jysp 14 (fun g109_2=>?_) fun g109_2=>?_
 rotate_left
 ·refine jys ?_;refine jys ?_;refine jys ?_;refine jys ?_;refine jys ?_;refine jys1 ?_;refine jys ?_;refine jys ?_;refine jyq jrpF ?_;refine jyq jrpF ?_;refine jyd ?_;refine jtn ?_;refine jcF ?_
  refine jS (jtn ?_)
  refine jE (closeB n1 r1 t1 l1 0 2 rfl rfl rfl (by decide) cZ cZ) ?_;refine jE (closeB n2 r2 t2 l2 1 3 rfl rfl rfl (by decide) cZ cZ) ?_;refine jE (pick_ent (H':=[boxO n1 r1 t1 l1,boxO n2 r2 t2 l2]) [0,1] (by decide) rfl) ?_;refine jcr ?_;refine jq jrm ?_
  refine jqm (jmcE 0 (btake_ac n1 r1 t1 l1) ?_)
  refine jq jrm ?_;refine jq jrx ?_;refine jq jrx ?_;refine jq jrm ?_;refine jq jrm ?_;refine jN ?_;refine jcr ?_;refine jq jrm ?_;refine jq jrm ?_
  refine jqm (jmcE 1 (bput_ac n2 r2 t2 l2 (l1.headD [])) ?_)
  refine jq jrm ?_;refine jN ?_;refine jR ?_
  have hl1:¬ l1.isEmpty=true:=fun h=>by have:=List.isEmpty_iff.1 h;subst this;simp at g109
  have hl2:l2.length<r2:=by first|omega|cases g109_2
  have e:(if l2.length<r2 then l1.tail else l1)=l1.tail:=if_pos hl2
  have e2:(if l1.isEmpty=true then l2 else bxPut r2 (l1.headD []) l2)=bxPut r2 (l1.headD []) l2:=if_neg hl1
  rw [e,e2]
  exact end_pack (gd:=fun _:Unit=>0) (E:=fun _=>[boxO n1 r1 t1 l1.tail,boxO n2 r2 t2 (bxPut r2 (l1.headD []) l2)]) (.inl rfl) (.c (.bool (!l1.isEmpty && decide (l2.length<r2)))) () [0,1] (by decide) rfl ((res_1 rfl javt).ent (cB (by rw [Bool.eq_false_iff.2 hl1];rfl))) ⟨rfl,rfl⟩
 refine jyq jrm ?_;refine jyq jrm ?_;refine jyq jrnc ?_;refine jyq (jrfa 0 1 false) ?_
 first|refine jyo jrdo ?_|refine jyq jrdr ?_
 refine jye (e_blen 1 3 ?_)
 refine jyo (rd_capCh (i:=3) rfl rfl rfl Tryd.underlying50) ?_;refine jyq jrc ?_;refine jyq jrpT ?_;refine jyq jrpF ?_;refine jyd ?_;refine jtn ?_;refine jcc (fun h109=>?_) fun h109=>?_
 ·refine jE (closeB n1 r1 t1 l1 0 2 rfl rfl rfl (by decide) cZ cZ) ?_;refine jE (closeB n2 r2 t2 l2 1 3 rfl rfl rfl (by decide) cZ cZ) ?_;refine jE (pick_ent (H':=[boxO n1 r1 t1 l1,boxO n2 r2 t2 l2]) [0,1] (by decide) rfl) ?_;refine jcr ?_;refine jq jrm ?_;refine jN ?_
  refine jR (jtr ?_)
  by_cases hl1:l1.isEmpty=true
  ·obtain rfl:l1=[]:=List.isEmpty_iff.1 hl1
   have e:(if l2.length<r2 then ([]:List (List UInt8)).tail else [])=[]:=ite_self _
   rw [e]
   exact end_pack (gd:=fun _:Unit=>0) (E:=fun _=>[boxO n1 r1 t1 [],boxO n2 r2 t2 l2]) (.inl rfl) (.c (.bool false)) () [0,1] (by decide) rfl ((res_1 rfl javt).ent (cB rfl)) ⟨rfl,rfl⟩
  ·have hl2:¬ l2.length<r2:=by first|omega|exact absurd (by rw [List.eq_nil_of_length_eq_zero (show l1.length=0 by omega)];rfl) hl1
   have e:(if l2.length<r2 then l1.tail else l1)=l1:=if_neg hl2
   have e2:(if l1.isEmpty=true then l2 else bxPut r2 (l1.headD []) l2)=l2:=by rw [if_neg hl1];exact if_neg hl2
   rw [e,e2]
   exact end_pack (gd:=fun _:Unit=>0) (E:=fun _=>[boxO n1 r1 t1 l1,boxO n2 r2 t2 l2]) (.inl rfl) (.c (.bool (!l1.isEmpty && decide (l2.length<r2)))) () [0,1] (by decide) rfl ((res_1 rfl javt).ent (cB (by rw [decide_eq_false hl2,Bool.and_false]))) ⟨rfl,rfl⟩
 refine jS (jtn ?_)
 refine jE (closeB n1 r1 t1 l1 0 2 rfl rfl rfl (by decide) cZ cZ) ?_;refine jE (closeB n2 r2 t2 l2 1 3 rfl rfl rfl (by decide) cZ cZ) ?_;refine jE (pick_ent (H':=[boxO n1 r1 t1 l1,boxO n2 r2 t2 l2]) [0,1] (by decide) rfl) ?_;refine jcr ?_;refine jq jrm ?_
 refine jqm (jmcE 0 (btake_ac n1 r1 t1 l1) ?_)
 refine jq jrm ?_;refine jq jrx ?_;refine jq jrx ?_;refine jq jrm ?_;refine jq jrm ?_;refine jN ?_;refine jcr ?_;refine jq jrm ?_;refine jq jrm ?_
 refine jqm (jmcE 1 (bput_ac n2 r2 t2 l2 (l1.headD [])) ?_)
 refine jq jrm ?_;refine jN ?_;refine jR ?_
 have hl1:¬ l1.isEmpty=true:=fun h=>by have:=List.isEmpty_iff.1 h;subst this;simp at g109
 have hl2:l2.length<r2:=by first|omega|cases g109_2
 have e:(if l2.length<r2 then l1.tail else l1)=l1.tail:=if_pos hl2
 have e2:(if l1.isEmpty=true then l2 else bxPut r2 (l1.headD []) l2)=bxPut r2 (l1.headD []) l2:=if_neg hl1
 rw [e,e2]
 exact end_pack (gd:=fun _:Unit=>0) (E:=fun _=>[boxO n1 r1 t1 l1.tail,boxO n2 r2 t2 (bxPut r2 (l1.headD []) l2)]) (.inl rfl) (.c (.bool (!l1.isEmpty && decide (l2.length<r2)))) () [0,1] (by decide) rfl ((res_1 rfl javt).ent (cB (by rw [Bool.eq_false_iff.2 hl1];rfl))) ⟨rfl,rfl⟩
end
section
variable {gs:List Nat} [OkG gs]

theorem sameS_ac {gs:List Nat} (l:List (List UInt8)):ACp gs Tryd.prog 30 [ssC l,ssC l] (.c (.bool true)):=by
 refine ac_len 0 rfl fun hlen=>?_;refine ac_oF 26 Tryd.func30 fun al w0 F0 St0=>?_;refine jcr ?_;refine jq jrm ?_;refine jN ?_;refine jcs ?_;refine jcr ?_;refine jq jrm ?_;refine jq jrl ?_;refine jq jrm ?_;refine jq jrl ?_;refine jq jrc ?_;refine jN ?_;refine jcc (fun h158=>?_) fun h158=>?_
 ·refine jcr ?_;refine jq jrm ?_;refine jN ?_
  refine jR (jtr (jrt (hv:=absurd rfl h158)))
 refine jS (jtn ?_)
 refine jcs ?_;refine jcr ?_;refine jq jrm ?_;refine jq jrl ?_;refine jq jrm ?_;refine jN ?_;refine jB ?_;refine l_loop (α:=Nat) [4,5,13,14,15,16,17,18,19,20,21,22,23,24,25] (fun i=>[(13,.c (.int .i64 (i:Nat)))]) (fun _=>[]) (fun i=>i≤l.length) (fun i=>l.length-i) (0) ?_ (fun _=>rfl) ?_ ?_ ?_
 ·exact Nat.zero_le _
 ·(repeat (first|exact EntE.nil|refine EntE.cons cZ ?_|refine EntE.cons (cI (by omega)) ?_))
 ·(repeat (first|exact HEnt.nil|refine HEnt.same ?_|refine HEnt.blk rfl (fun j hj=>by rcases j with _|_|_|_|_|_|_|_|j <;> first|exact cZ|exact cI (by omega)|omega) ?_))
 ·rintro i (hi:i≤l.length)
  refine jcr ?_;refine jq jrc ?_;refine jN ?_;refine jcs ?_;refine jcc (fun h161=>?_) fun h161=>?_
  rotate_left
  ·refine jX (jte (jte (jbx (jtn ?_))))
   refine jcr ?_;refine jq jrm ?_;refine jN ?_
   refine jR jrt
  refine jS (jtn ?_)
  refine jcs ?_;refine jB ?_;refine jcr ?_;refine jq jrm ?_;refine jq jrm ?_;refine jN ?_;refine jcs ?_;refine jcd (.rd 0 (.rd 1 (.rd 2 (.rd 3 (.rd 4 (.rd 5 (.rd 6 (.rd 7 (.rd 8 .done))))))))) ?_;refine jyq jrm ?_;refine jyq jrm ?_;refine jyq jri ?_
  first|refine jyo jrdo ?_|refine jyq jrdr ?_
  refine jyq jrm ?_;refine jyq jrm ?_;refine jyq jri ?_
  first|refine jyo jrdo ?_|refine jyq jrdr ?_
  refine jyq jrcs ?_;refine jyd ?_;refine jtn ?_;refine jcc (fun h162=>?_) fun h162=>?_
  ·refine jcr ?_;refine jq jrm ?_;refine jN ?_
   refine jR (jbr (jtr (jtr (jbr (jtr (jrt (hv:=absurd rfl h162)))))))
  refine jS (jbn (jtn ?_))
  refine jcg ?_;refine jq jra ?_;refine jq jrm ?_;refine jN ?_;refine jtn ?_;refine jlend (i+1) ?_ ?_
  ·show i+1≤l.length;omega
  ·omega
theorem same35_ac {gs:List Nat} (n room m room2:Nat) (lost:Int) (l:List (List UInt8)) (hl:l.length≤room) (hr:room≤1000):AC gs Tryd.prog 20 [bagE [boxO n room lost l,modO m room2 lost l]] [.op 0 (some n) 0,.op 0 (some m) 0] (fun r H'=>r=.c (.bool true)∧H'=[bagE [boxO n room lost l,modO m room2 lost l]]):=by
 refine ac_oF 31 Tryd.func20 fun al w0 F0 St0=>?_;refine jcr ?_;refine jq jrm ?_;refine jN ?_;refine jcs ?_;refine jE (bag_pop 0 rfl) ?_;refine jE (bag_pop 0 rfl) ?_;refine jE (pick_ent (H':=[boxO n room lost l,modO m room2 lost l]) [1,2] (by decide) rfl) ?_;refine code_openB 0 rfl fun c=>?_;refine jE (weaken 1 (.op 1 (some m) 0) cP) ?_
 dsimp only [List.set_cons_zero,List.set_cons_succ,List.cons_append,List.nil_append,List.length_cons,List.length_nil,Nat.zero_add,Nat.reduceAdd]
 refine jcdC 17 (.rd 0 (.rd 2 (.rd 3 (.rd 4 (.rd 5 (.rd 6 (.one 1 (.rd 7 (.rd 8 (.rd 9 (.rd 11 (.rd 12 (.rd 13 (.rd 14 (.one 10 (.rd 15 (.rd 16 .done))))))))))))))))) (.rd 17 (.rd 18 (.rd 20 (.rd 21 (.rd 22 (.two 19 (.one 23 (.one 24 (.rd 25 (.rd 26 .done)))) 23 (.one 19 (.one 24 (.rd 25 (.rd 26 .done)))))))))) ?_;refine jyq jrm ?_;refine jyq jrm ?_;refine jyq jrnc ?_;refine jyq (jrfa 2 1 false) ?_
 first|refine jyo jrdo ?_|refine jyq jrdr ?_
 refine jyq jrl ?_
 refine jye (e_blen 0 2 ?_)
 refine jyq jrc ?_;refine jyq jrm ?_;refine jysp 13 (fun g41=>?_) fun g41=>?_
 rotate_left
 ·refine jys ?_;refine jys ?_;refine jys ?_;refine jys ?_;refine jys ?_;refine jys1 ?_;refine jys ?_;refine jyq jrpF ?_;refine jyd ?_
  show AZ _ _ _ _ _ _
  refine jzq jrm ?_;refine jzs ?_;refine jzs ?_;refine jzs ?_;refine jzs ?_;refine jztwo ?_ ?_
  ·refine jzs1 ?_;refine jzs1 ?_;refine jzs1 ?_;refine jzq jrpF ?_;refine jzq jrm ?_;refine jzd ?_;refine jtn ?_;refine jR ?_
   first
    | exact absurd rfl g41
    | exact absurd rfl g41_2
    | exact end_pack (gd:=fun _:Unit=>0) (E:=fun _=>[boxO n room lost l,modO m room2 lost l]) (.inl rfl) _ () [0,1] (by decide) rfl (res_1 rfl javt) ⟨rfl,rfl⟩
  ·refine jzs1 ?_;refine jzs1 ?_;refine jzs1 ?_;refine jzq jrpF ?_;refine jzq jrm ?_;refine jzd ?_;refine jtn ?_;refine jR ?_
   first
    | exact absurd rfl g41
    | exact absurd rfl g41_2
    | exact end_pack (gd:=fun _:Unit=>0) (E:=fun _=>[boxO n room lost l,modO m room2 lost l]) (.inl rfl) _ () [0,1] (by decide) rfl (res_1 rfl javt) ⟨rfl,rfl⟩
 refine jyq jrm ?_;refine jyq jrm ?_;refine jyq jrnc ?_;refine jyq (jrfa 1 1 false) ?_
 first|refine jyo jrdo ?_|refine jyq jrdr ?_
 refine jye (e_blost 0 ?_)
 refine jyq jrc ?_;refine jyq jrpT ?_;refine jyd ?_
 show AZ _ _ _ _ _ _
 refine jzq jrm ?_;refine jzsp 22 (fun g41_2=>?_) fun g41_2=>?_
 rotate_left
 ·refine jzs ?_;refine jzs ?_;refine jzs ?_;refine jzs ?_;refine jztwo ?_ ?_
  ·refine jzs1 ?_;refine jzs1 ?_;refine jzs1 ?_;refine jzq jrpF ?_;refine jzq jrm ?_;refine jzd ?_;refine jtn ?_;refine jR ?_
   first
    | exact absurd rfl g41
    | exact absurd rfl g41_2
    | exact end_pack (gd:=fun _:Unit=>0) (E:=fun _=>[boxO n room lost l,modO m room2 lost l]) (.inl rfl) _ () [0,1] (by decide) rfl (res_1 rfl javt) ⟨rfl,rfl⟩
  ·refine jzs1 ?_;refine jzs1 ?_;refine jzs1 ?_;refine jzq jrpF ?_;refine jzq jrm ?_;refine jzd ?_;refine jtn ?_;refine jR ?_
   first
    | exact absurd rfl g41
    | exact absurd rfl g41_2
    | exact end_pack (gd:=fun _:Unit=>0) (E:=fun _=>[boxO n room lost l,modO m room2 lost l]) (.inl rfl) _ () [0,1] (by decide) rfl (res_1 rfl javt) ⟨rfl,rfl⟩
 refine jzq jrm ?_;refine jzq jrm ?_;refine jzq jrnc ?_;refine jzq (jrfa 2 1 false) ?_;refine jztwo ?_ ?_
 ·refine z_ent (closeB n room lost l 0 2 rfl rfl rfl (by decide) cZ cZ) ?_
  refine jzm (jmcE 0 (ball_ac n room lost l hl hr) ?_)
  first|refine jz1o jrdo ?_|refine jz1 jrdr ?_
  refine jze (jecP (sameS_ac l) ?_)
  refine jzq jrpT ?_;refine jzq jrm ?_;refine jzd ?_;refine jtn ?_;refine jR ?_
  first
   | exact absurd rfl g41
   | exact absurd rfl g41_2
   | exact end_pack (gd:=fun _:Unit=>0) (E:=fun _=>[boxO n room lost l,modO m room2 lost l]) (.inl rfl) _ () [0,1] (by decide) rfl (res_1 rfl javt) ⟨rfl,rfl⟩
 ·first|refine jz1o jrdo ?_|refine jz1 jrdr ?_
  refine z_ent (closeB n room lost l 0 2 rfl rfl rfl (by decide) cZ cZ) ?_
  refine jzm (jmcE 0 (ball_ac n room lost l hl hr) ?_)
  refine jze (jecP (sameS_ac l) ?_)
  refine jzq jrpT ?_;refine jzq jrm ?_;refine jzd ?_;refine jtn ?_;refine jR ?_
  first
   | exact absurd rfl g41
   | exact absurd rfl g41_2
   | exact end_pack (gd:=fun _:Unit=>0) (E:=fun _=>[boxO n room lost l,modO m room2 lost l]) (.inl rfl) _ () [0,1] (by decide) rfl (res_1 rfl javt) ⟨rfl,rfl⟩
abbrev Ac35:=Int×Bool×List UInt8
def acF (a:Ac35):Nat→CV:=fl [.c (.int .i64 a.1),.c (.bool a.2.1),strC a.2.2]
def acsC (l:List Ac35):CV:=.rs 3 l.length fun i j=>acF (l.getD i (0,false,[])) j
def longA (l:List Ac35):Bool:=decide (60<l.length) || l.any fun a=>decide (50<a.2.2.length)
theorem long35_ac {gs:List Nat} (l:List Ac35):ACp gs Tryd.prog 5 [acsC l] (.c (.bool (longA l))):=by
 refine ac_len 0 rfl fun hlen=>?_;refine ac_oF 19 Tryd.func5 fun al w0 F0 St0=>?_;refine jcr ?_;refine jq jrm ?_;refine jN ?_;refine jcs ?_;refine jcr ?_;refine jq jrm ?_;refine jq jrl ?_;refine jq jrc ?_;refine jN ?_;refine jcc (fun h28=>?_) fun h28=>?_
 ·refine jcr ?_;refine jq jrm ?_;refine jN ?_
  refine jR (jtr (jrt (hv:=cB (by simp [longA];omega))))
 refine jS (jtn ?_)
 refine jcs ?_;refine jcr ?_;refine jq jrm ?_;refine jq jrl ?_;refine jq jrm ?_;refine jN ?_;refine jB ?_;refine l_loop (α:=Nat) [2,4,10,11,12,13,14,15,16,17,18] (fun i=>[(10,.c (.int .i64 (i:Nat)))]) (fun _=>[]) (fun i=>i≤l.length∧(l.take i).any (fun a=>decide (50<a.2.2.length))=false) (fun i=>l.length-i) (0) ?_ (fun _=>rfl) ?_ ?_ ?_
 ·simp
 ·(repeat (first|exact EntE.nil|refine EntE.cons cZ ?_|refine EntE.cons (cI (by omega)) ?_))
 ·(repeat (first|exact HEnt.nil|refine HEnt.same ?_|refine HEnt.blk rfl (fun j hj=>by rcases j with _|_|_|_|_|_|_|_|j <;> first|exact cZ|exact cI (by omega)|omega) ?_))
 ·rintro i ⟨hi,hf⟩
  refine jcr ?_;refine jq jrc ?_;refine jN ?_;refine jcs ?_;refine jcc (fun h31=>?_) fun h31=>?_
  rotate_left
  ·refine jX (jte (jte (jbx (jtn ?_))))
   refine jcr ?_;refine jq jrm ?_;refine jN ?_
   refine jR (jrt (hv:=?_))
   refine cB ?_
   have hi2:i=l.length:=by omega
   subst hi2
   rw [List.take_length] at hf
   have:¬ 60<l.length:=by omega
   simp only [longA,hf,this,decide_false,Bool.or_false]
  refine jS (jtn ?_)
  refine jcs ?_;refine jB ?_;refine jcr ?_;refine jq jri ?_
  first|refine jqo (jrdoA 3) ?_|refine jq (jrdrA 3) ?_
  refine jqe (jeal (n:=3) zr36 rfl fun p1=>?_)
  refine jqm (jmst 3 ?_)
  refine jN ?_;refine jcr ?_;refine jq (jrfa 2 1 false) ?_
  first|refine jqo jrdo ?_|refine jq jrdr ?_
  refine jq jrls ?_;refine jq jrc ?_;refine jN ?_;refine jcc (fun h32=>?_) fun h32=>?_
  ·refine jcr ?_;refine jq jrm ?_;refine jN ?_
   refine jR (jbr (jtr (jtr (jbr (jtr (jrt (hv:=?_)))))))
   refine cB ?_
   have hl:i<l.length:=by omega
   have e:(l.getD i (0,false,[]))=l[i]:=by simp [List.getD,hl]
   rw [e] at h32
   have h2:l.any (fun a=>decide (50<a.2.2.length))=true:=List.any_eq_true.2 ⟨l[i],List.getElem_mem hl,by simp;omega⟩
   simp [longA,h2]
  refine jS (jbn (jtn ?_))
  refine jcg ?_;refine jq jra ?_;refine jq jrm ?_;refine jN ?_;refine jtn ?_;refine jlend (i+1) ?_ ?_
  ·refine ⟨by omega,?_⟩
   have hl:i<l.length:=by omega
   rw [List.take_succ_eq_append_getElem hl,List.any_append,hf]
   have e:(l.getD i (0,false,[]))=l[i]:=by simp [List.getD,hl]
   rw [e] at h32
   simp
   omega
  ·omega
end
end Am
end Go.Proofs.YtcjmppgkojogdaaDoor
namespace Go.Proofs.YtcjmppgkojogdaaDoor
open Go.Conc Go.RowKit

set_option maxRecDepth 100000 in
theorem put35_room {w:World} {g c cap s r:Nat} {buf:Array Value} {tm:Bool} (x:Int) (h0:w.cell? ⟨g,0,none⟩=some (.chan (some c))) (hc:w.heap[c]?=some (.chan cap buf false s r tm)) (hr:buf.size<cap) :
  Calls Tryd.prog 31 #[.pointer (some ⟨g,0,none⟩),.int .i64 x] w fun e w'=>e=.returned (.bool true)∧w'=w.setChan c cap (buf.push (.int .i64 x)) false (s+1) r tm:=by
 refine calls_of_loneTo fun cs=>?_
 have e:Frame.enter Tryd.prog 31 #[.pointer (some ⟨g,0,none⟩),.int .i64 x] .normal=(base 31).at ⟨#[.pointer (some ⟨g,0,none⟩),.int .i64 x,undef,undef,undef,undef,undef,undef,undef,undef,undef,undef,undef],[]⟩ [.code (Tryd.f31.body.getD .skip)]:=by
  simp [Frame.enter,Frame.at,Tryd.func31,base,Tryd.f31]
 rw [e]
 refine LoneTo.goes (n:=60) ?_
 simp only [Tryd.f31,Option.getD_some]
 s_c stepG_seq
 s_reg
 s_op
 s_c stepG_region_end
 s_c stepG_seq
 s_c stepG_seq
 s_reg
 s_op
 s_op
 s_op
 s_op
 s_c stepG_region_end
 s_reg
 s_op
 s_c stepG_region_end
 s_c stepG_seq
 s_reg
 s_stop
 refine LoneTo.step (step_lone_select_send_room (c:=c) (cap:=cap) (buf:=buf) (s:=s) (r:=r) (tm:=tm) (stepG_comm (cases:=#[scase c (.int .i64 x) (.int .i64 0)]) (blocking:=false) (shape:=.select) (w':=w) rfl rfl (by decide) (by simp [go_sem,execOp,scase,Act.eval])) hc hr) ?_
 rw [Frame.finish_at]
 walk_nrm
 refine LoneTo.goes (n:=40) ?_
 s_op
 s_op
 s_c stepG_region_end
 s_c stepG_block
 s_cond true
 s_c stepG_seq
 s_reg
 s_op
 s_c stepG_region_end
 s_c stepG_ret'
 s_stop
 exact LoneTo.done ⟨.returned (.bool true),_,rfl,⟨rfl,rfl⟩,rfl,rfl,rfl,rfl,_,Tryd.func31,by simp [results,Tryd.f31,Frame.at]⟩

set_option maxRecDepth 100000 in
theorem put35_full {w:World} {g c cap s r:Nat} {buf:Array Value} {tm:Bool} (x:Int) (h0:w.cell? ⟨g,0,none⟩=some (.chan (some c))) (hc:w.heap[c]?=some (.chan cap buf false s r tm)) (hr:cap≤buf.size) :
  Calls Tryd.prog 31 #[.pointer (some ⟨g,0,none⟩),.int .i64 x] w fun e w'=>e=.returned (.bool false)∧w'=w:=by
 refine calls_of_loneTo fun cs=>?_
 have e:Frame.enter Tryd.prog 31 #[.pointer (some ⟨g,0,none⟩),.int .i64 x] .normal=(base 31).at ⟨#[.pointer (some ⟨g,0,none⟩),.int .i64 x,undef,undef,undef,undef,undef,undef,undef,undef,undef,undef,undef],[]⟩ [.code (Tryd.f31.body.getD .skip)]:=by
  simp [Frame.enter,Frame.at,Tryd.func31,base,Tryd.f31]
 rw [e]
 refine LoneTo.goes (n:=60) ?_
 simp only [Tryd.f31,Option.getD_some]
 s_c stepG_seq
 s_reg
 s_op
 s_c stepG_region_end
 s_c stepG_seq
 s_c stepG_seq
 s_reg
 s_op
 s_op
 s_op
 s_op
 s_c stepG_region_end
 s_reg
 s_op
 s_c stepG_region_end
 s_c stepG_seq
 s_reg
 s_stop
 refine LoneTo.step (step_lone_select_send_full (c:=c) (cap:=cap) (buf:=buf) (s:=s) (r:=r) (tm:=tm) (stepG_comm (cases:=#[scase c (.int .i64 x) (.int .i64 0)]) (blocking:=false) (shape:=.select) (w':=w) rfl rfl (by decide) (by simp [go_sem,execOp,scase,Act.eval])) hc hr) ?_
 rw [Frame.finish_at]
 walk_nrm
 refine LoneTo.goes (n:=40) ?_
 s_op
 s_op
 s_c stepG_region_end
 s_c stepG_block
 s_cond false
 s_c stepG_seq
 s_reg
 s_op
 s_c stepG_region_end
 s_c stepG_ret'
 s_stop
 exact LoneTo.done ⟨.returned (.bool false),_,rfl,⟨rfl,rfl⟩,rfl,rfl,rfl,rfl,_,Tryd.func31,by simp [results,Tryd.f31,Frame.at]⟩

end Go.Proofs.YtcjmppgkojogdaaDoor
namespace Go.Proofs.YtcjmppgkojogdaaDoor
open Go.Conc Go.RowKit

set_option maxHeartbeats 400000 in
theorem lost35_any {w:World} {g:Nat} {n:Int} (h1:w.cell? ⟨g,1,none⟩=some (.int .i64 n)) :
  Calls Tryd.prog 23 #[.pointer (some ⟨g,0,none⟩)] w fun e w'=>e=.returned (.int .i64 n)∧w'=w:=by
 go_enter Tryd.func23,Tryd.ntmps23
 go_wp2
 go_ret
 exact ⟨rfl,rfl⟩
set_option maxHeartbeats 400000 in
theorem len35_any {w:World} {g c cap s r:Nat} {buf:Array Value} (h0:w.cell? ⟨g,0,none⟩=some (.chan (some c))) (hc:w.heap[c]?=some (.chan cap buf false s r false))  :
  Calls Tryd.prog 24 #[.pointer (some ⟨g,0,none⟩)] w fun e w'=>e=.returned (.int .i64 buf.size)∧w'=w:=by
 have hl:=run_len_chan (P:=Tryd.prog) 58 3 Tryd.underlying58 hc
 simp only [goInt] at hl
 go_enter Tryd.func24,Tryd.ntmps24
 go_wp2
 go_ret
 exact ⟨rfl,rfl⟩
set_option maxHeartbeats 400000 in
theorem new35_any {w:World} (n:Nat) (h:1≤n) (h2:n≤16) :
  Calls Tryd.prog 21 #[.int .i64 n] w fun e w'=>e=.returned (.tuple #[.pointer (some ⟨w.heap.size+1,0,none⟩),.nilIface])∧w'=(w.alloc (.chan n #[] false 0 0 false)).alloc (.cells #[.chan (some w.heap.size),.int .i64 0] 60):=by
 obtain ⟨i,hi,hb⟩:∃ i,Tryd.prog.info? 3=some i∧i.bytes=8:=by
  have h:(Tryd.prog.info? 3).map (·.bytes)=some 8:=by kernel_rfl
  exact Option.map_eq_some_iff.1 h
 have hm:=run_makeChan (P:=Tryd.prog) (w:=w) Tryd.underlying58 hi .i64 n (by omega) (by rw [hb];omega)
 have t1:decide ((n:Int)<1)=false:=by simp;omega
 have t2:decide ((16:Int)<n)=false:=by simp;omega
 clear h h2
 go_enter Tryd.func21,Tryd.ntmps21
 go_wp2
 go_ret2
 exact ⟨rfl,rfl⟩

theorem cell_setChan {w:World} {c cap s r:Nat} {buf:Array Value} {cl tm:Bool} {p:Addr} (h:p.block≠c):(w.setChan c cap buf cl s r tm).cell? p=w.cell? p:=by
 simp [World.cell?,World.setChan,Array.getElem?_setIfInBounds_ne (Ne.symm h)]
theorem frozen_setChan {w:World} {c cap s r:Nat} {buf:Array Value} {cl tm:Bool} {p:Addr} (h:p.block≠c):(w.setChan c cap buf cl s r tm).frozen? p=w.frozen? p:=by
 simp [World.frozen?,World.setChan,Array.getElem?_setIfInBounds_ne (Ne.symm h)]

set_option maxHeartbeats 400000 in
theorem Put35_room {w:World} {g c cap s r:Nat} {buf:Array Value} (x:Int) (h0:w.cell? ⟨g,0,none⟩=some (.chan (some c))) (hc:w.heap[c]?=some (.chan cap buf false s r false)) (hr:buf.size<cap) :
  Calls Tryd.prog 22 #[.pointer (some ⟨g,0,none⟩),.int .i64 x] w fun e w'=>e=.returned (.bool true)∧w'=w.setChan c cap (buf.push (.int .i64 x)) false (s+1) r false:=by
 have H:=Lib.hid (put35_room x h0 hc hr)
 clear hr
 go_enter Tryd.func22,Tryd.ntmps22
 go_wp2_with (go_at_call 31;refine (H.out).mono ?_;rintro e w1 ⟨rfl,rfl⟩)
 go_ret
 exact ⟨rfl,rfl⟩
set_option maxHeartbeats 400000 in
theorem Put35_full {w:World} {g c cap s r:Nat} {buf:Array Value} (x n:Int) (h0:w.cell? ⟨g,0,none⟩=some (.chan (some c))) (h1:w.cell? ⟨g,1,none⟩=some (.int .i64 n)) (hf:w.frozen? ⟨g,1,none⟩=false) (hn:-9223372036854775808≤n) (hn2:n<9223372036854775807)
  (hc:w.heap[c]?=some (.chan cap buf false s r false)) (hr:cap≤buf.size) :
  Calls Tryd.prog 22 #[.pointer (some ⟨g,0,none⟩),.int .i64 x] w fun e w'=>e=.returned (.bool false)∧w'=w.setCell ⟨g,1,none⟩ (.int .i64 (n+1)):=by
 have H:=Lib.hid (put35_full x h0 hc hr)
 clear hr
 go_enter Tryd.func22,Tryd.ntmps22
 go_wp2_with (go_at_call 31;refine (H.out).mono ?_;rintro e w1 ⟨rfl,rfl⟩)
 go_ret
 exact ⟨rfl,rfl⟩
end Go.Proofs.YtcjmppgkojogdaaDoor
namespace Go.Proofs.YtcjmppgkojogdaaDoor
open Go.Conc Go.RowKit

structure Box35 (base:Nat) (w:World) (g c room s r:Nat) (buf:Array Value) (lost:Int):Prop where
 c0:w.cell? ⟨g,0,none⟩=some (.chan (some c))
 c1:w.cell? ⟨g,1,none⟩=some (.int .i64 lost)
 fz:w.frozen? ⟨g,1,none⟩=false
 ch:w.heap[c]?=some (.chan room buf false s r false)
 ne:g≠c
 bg:base≤g
 bc:base≤c

theorem Box35.new (w:World) (n:Nat):Box35 w.heap.size ((w.alloc (.chan n #[] false 0 0 false)).alloc (.cells #[.chan (some w.heap.size),.int .i64 0] 60)) (w.heap.size+1) w.heap.size n 0 0 #[] 0 where
 c0:=by simp
 c1:=by simp
 fz:=by simp
 ch:=by
  rw [Below.heap_alloc _ _ _ (by simp)]
  exact heap_alloc_new w _
 ne:=by omega
 bg:=by omega
 bc:=by omega
theorem Box35.setChan {base:Nat} {w:World} {g c room s r s' r':Nat} {buf buf':Array Value} {lost:Int} (h:Box35 base w g c room s r buf lost) :
  Box35 base (w.setChan c room buf' false s' r' false) g c room s' r' buf' lost where
 c0:=(cell_setChan h.ne).trans h.c0
 c1:=(cell_setChan h.ne).trans h.c1
 fz:=(frozen_setChan h.ne).trans h.fz
 ch:=heap_setChan w c room buf' false s' r' false (Array.getElem?_eq_some_iff.1 h.ch).1
 ne:=h.ne
 bg:=h.bg
 bc:=h.bc
theorem only_heap35 {w:World} {p:Addr} {v:Value} {c:Nat} (h:p.block≠c):(w.setCell p v).heap[c]?=w.heap[c]?:=by
 simp only [World.setCell]
 rw [Array.getElem?_modify,if_neg h]
theorem Box35.lostUp {base:Nat} {w:World} {g c room s r:Nat} {buf:Array Value} {lost:Int} (h:Box35 base w g c room s r buf lost) (n:Int) :
  Box35 base (w.setCell ⟨g,1,none⟩ (.int .i64 n)) g c room s r buf n where
 c0:=(World.cell?_setCell_other _ _ _ _ (by simp)).trans h.c0
 c1:=World.cell?_setCell_same _ _ _ h.c1
 fz:=by have:=h.fz;simp [this]
 ch:=by rw [← h.ch];exact only_heap35 (fun e=>h.ne e)
 ne:=h.ne
 bg:=h.bg
 bc:=h.bc
theorem below_chan {base:Nat} {a w:World} {g c room s r s' r':Nat} {buf buf':Array Value} {lost:Int} (hb:Below base a w) (h:Box35 base w g c room s r buf lost):Below base a (w.setChan c room buf' false s' r' false) :=
 below_setChan hb h.bc _ _ _ _ _ _
theorem below_lost {base:Nat} {a w:World} {g c room s r:Nat} {buf:Array Value} {lost:Int} (hb:Below base a w) (h:Box35 base w g c room s r buf lost) (v:Value):Below base a (w.setCell ⟨g,1,none⟩ v) :=
 hb.setCell h.bg v

set_option maxRecDepth 100000 in
set_option maxHeartbeats 400000 in
theorem alive35_any (w:World):Calls Tryd.prog 4 #[] w fun e w'=>e=.returned (.bool true)∧Below w.heap.size w w':=by
 have HN:=Lib.hid (new35_any (w:=w) 1 (by decide) (by decide))
 have H0:=Lib.hid (Box35.new w 1)
 obtain ⟨W0,hW⟩:∃ W0,W0=((w.alloc (.chan 1 #[] false 0 0 false)).alloc (.cells #[.chan (some w.heap.size),.int .i64 0] 60)):=⟨_,rfl⟩
 have HB:Hid (Below w.heap.size w W0):=by rw [hW];exact ((Below.refl _ _).alloc (Nat.le_refl _) _).alloc (by simp) _
 rw [← hW] at HN H0
 clear hW
 go_enter Tryd.func4,Tryd.ntmps4
 go_wp2_with fail
 refine (HN.out).mono ?_
 rintro e w1 ⟨rfl,rfl⟩
 go_wp2_with fail
 refine (Put35_room 5 H0.out.c0 H0.out.ch (by decide)).mono ?_
 rintro e w2 ⟨rfl,hw2⟩
 have H2:Hid (Box35 w.heap.size w2 (w.heap.size+1) w.heap.size 1 1 0 #[.int .i64 5] 0):=by rw [hw2];exact H0.out.setChan
 have HB2:Hid (Below w.heap.size w w2):=by rw [hw2];exact below_chan HB.out H0.out
 clear hw2
 go_wp2_with fail
 refine (Put35_full 6 0 H2.out.c0 H2.out.c1 H2.out.fz (by decide) (by decide) H2.out.ch (by decide)).mono ?_
 rintro e w3 ⟨rfl,hw3⟩
 have H3:Hid (Box35 w.heap.size w3 (w.heap.size+1) w.heap.size 1 1 0 #[.int .i64 5] 1):=by rw [hw3];exact H2.out.lostUp _
 have HB3:Hid (Below w.heap.size w w3):=by rw [hw3];exact below_lost HB2.out H2.out _
 clear hw3
 go_wp2_with fail
 refine (lost35_any H3.out.c1).mono ?_
 rintro e w4 ⟨rfl,rfl⟩
 go_wp2_with fail
 refine (len35_any H3.out.c0 H3.out.ch).mono ?_
 rintro e w5 ⟨rfl,rfl⟩
 go_wp2
 go_ret
 exact ⟨rfl,HB3.out⟩
end Go.Proofs.YtcjmppgkojogdaaDoor
namespace Go.Proofs.YtcjmppgkojogdaaDoor
set_option linter.unusedVariables false
open Go.RowKit

def evs (al:List Addr):Array Value:=#[ev al 1,ev al 2,ev al 3,ev al 4,ev al 5,ev al 6,ev al 7,ev al 8,ev al 9,ev al 10,ev al 11,ev al 12,ev al 13,ev al 14,ev al 15,ev al 16,ev al 17,ev al 18,ev al 19,ev al 20,ev al 21,ev al 22,ev al 23,ev al 24,ev al 25,ev al 26,ev al 27,ev al 28]
theorem evs_get (al:List Addr) (k:Nat) (hk:k<28):(evs al)[k]?=some (ev al (k+1)):=by
 have:∀ k,k<28→(evs al)[k]?=some (ev al (k+1)):=by
  intro k hk
  match k,hk with
  | 0,_=>rfl
  | 1,_=>rfl
  | 2,_=>rfl
  | 3,_=>rfl
  | 4,_=>rfl
  | 5,_=>rfl
  | 6,_=>rfl
  | 7,_=>rfl
  | 8,_=>rfl
  | 9,_=>rfl
  | 10,_=>rfl
  | 11,_=>rfl
  | 12,_=>rfl
  | 13,_=>rfl
  | 14,_=>rfl
  | 15,_=>rfl
  | 16,_=>rfl
  | 17,_=>rfl
  | 18,_=>rfl
  | 19,_=>rfl
  | 20,_=>rfl
  | 21,_=>rfl
  | 22,_=>rfl
  | 23,_=>rfl
  | 24,_=>rfl
  | 25,_=>rfl
  | 26,_=>rfl
  | 27,_=>rfl
  | k+28,h=>omega
 exact this k hk

set_option maxRecDepth 100000 in
set_option maxHeartbeats 400000 in
theorem num_any {w:World} {al:List Addr} (h:Sent w al) (m:Nat) (hm:m≤28) :
  Calls Tryd.prog 7 #[ev al m] w fun e w'=>e=.returned (.int .i64 m)∧Below w.heap.size w w':=by
 by_cases h0:m=0
 ·subst h0
  have e0:decide ((0:Nat)=0)=true:=rfl
  go_enter Tryd.func7,Tryd.ntmps7
  go_wp2
  go_ret
  exact ⟨rfl,Below.refl _ _⟩
 ·have hd:decide (m=0)=false:=by simpa using h0
  have g0:w.cell? ⟨0,0,none⟩=some (ev al 1):=h.var 0 _ rfl (by decide)
  have g1:w.cell? ⟨1,0,none⟩=some (ev al 2):=h.var 1 _ rfl (by decide)
  have g2:w.cell? ⟨2,0,none⟩=some (ev al 3):=h.var 2 _ rfl (by decide)
  have g3:w.cell? ⟨3,0,none⟩=some (ev al 4):=h.var 3 _ rfl (by decide)
  have g4:w.cell? ⟨4,0,none⟩=some (ev al 5):=h.var 4 _ rfl (by decide)
  have g5:w.cell? ⟨5,0,none⟩=some (ev al 6):=h.var 5 _ rfl (by decide)
  have g6:w.cell? ⟨6,0,none⟩=some (ev al 7):=h.var 6 _ rfl (by decide)
  have g7:w.cell? ⟨7,0,none⟩=some (ev al 8):=h.var 7 _ rfl (by decide)
  have g8:w.cell? ⟨8,0,none⟩=some (ev al 9):=h.var 8 _ rfl (by decide)
  have g9:w.cell? ⟨9,0,none⟩=some (ev al 10):=h.var 9 _ rfl (by decide)
  have g10:w.cell? ⟨10,0,none⟩=some (ev al 11):=h.var 10 _ rfl (by decide)
  have g11:w.cell? ⟨11,0,none⟩=some (ev al 12):=h.var 11 _ rfl (by decide)
  have g12:w.cell? ⟨12,0,none⟩=some (ev al 13):=h.var 12 _ rfl (by decide)
  have g13:w.cell? ⟨13,0,none⟩=some (ev al 14):=h.var 13 _ rfl (by decide)
  have g14:w.cell? ⟨14,0,none⟩=some (ev al 15):=h.var 14 _ rfl (by decide)
  have g15:w.cell? ⟨15,0,none⟩=some (ev al 16):=h.var 15 _ rfl (by decide)
  have g16:w.cell? ⟨16,0,none⟩=some (ev al 17):=h.var 16 _ rfl (by decide)
  have g17:w.cell? ⟨17,0,none⟩=some (ev al 18):=h.var 17 _ rfl (by decide)
  have g18:w.cell? ⟨18,0,none⟩=some (ev al 19):=h.var 18 _ rfl (by decide)
  have g19:w.cell? ⟨19,0,none⟩=some (ev al 20):=h.var 19 _ rfl (by decide)
  have g20:w.cell? ⟨20,0,none⟩=some (ev al 21):=h.var 20 _ rfl (by decide)
  have g21:w.cell? ⟨21,0,none⟩=some (ev al 22):=h.var 21 _ rfl (by decide)
  have g22:w.cell? ⟨22,0,none⟩=some (ev al 23):=h.var 22 _ rfl (by decide)
  have g23:w.cell? ⟨23,0,none⟩=some (ev al 24):=h.var 23 _ rfl (by decide)
  have g24:w.cell? ⟨24,0,none⟩=some (ev al 25):=h.var 24 _ rfl (by decide)
  have g25:w.cell? ⟨25,0,none⟩=some (ev al 26):=h.var 25 _ rfl (by decide)
  have g26:w.cell? ⟨26,0,none⟩=some (ev al 27):=h.var 26 _ rfl (by decide)
  have g27:w.cell? ⟨27,0,none⟩=some (ev al 28):=h.var 27 _ rfl (by decide)
  have HB:Hid (Below w.heap.size w (w.alloc (.cells (evs al) 27))):=(Below.refl _ _).alloc (Nat.le_refl _) _
  have HS:Hid (Sent (w.alloc (.cells (evs al) 27)) al):=h.below HB.out
  have HC:Hid (∀ k,k<28→(w.alloc (.cells (evs al) 27)).cell? ⟨w.heap.size,k,none⟩=some (ev al (k+1))):=fun k hk=>by
   rw [World.cell?_alloc_mark]
   exact evs_get al k hk
  clear h
  go_enter Tryd.func7,Tryd.ntmps7
  go_wp2_with (refine wpList_value (o:=⟨some 36,_,_,_,_,_⟩) (.slice (some ⟨w.heap.size,0,none⟩) 28 28) (w.alloc (.cells (evs al) 27)) rfl (by kernel_rfl) ?_)
  clear g0 g1 g2 g3 g4 g5 g6 g7 g8 g9 g10 g11 g12 g13 g14 g15 g16 g17 g18 g19 g20 g21 g22 g23 g24 g25 g26 g27
  show Code.wp _ _ _ _ (w.alloc (.cells (evs al) 27))
  generalize hW:w.alloc (.cells (evs al) 27)=W at HB HS HC ⊢
  have HW:=Lib.hid hW
  clear hW
  go_loop [39] (fun i=>∃ k:Nat,k<m∧i=.int .i64 k) (fun i=>28-(intOf i).toNat)
  case atStart=>exact ⟨0,by omega,rfl⟩
  case round =>
   obtain ⟨k,hk,rfl⟩:=hrel
   have hc:=HC.out k (by omega)
   by_cases hlast:m=k+1
   ·subst hlast
    have C:=Lib.hid (is_ev HS.out (k+1) k h0 hm (by omega))
    go_wp2_with (go_at_call 25;refine (C.out).mono ?_;rintro e w' ⟨rfl,rfl⟩)
    go_ret
    exact ⟨by simp,HB.out⟩
   ·have hdd:decide (m=k+1)=false:=by simpa using hlast
    have C:=Lib.hid (is_ev HS.out m k h0 hm (by omega))
    go_wp2_with (go_at_call 25;refine (C.out).mono ?_;rintro e w' ⟨rfl,rfl⟩)
    go_round
    case rel=>exact ⟨k+1,by omega,by go_num⟩
    case measure=>simp [intOf];omega
end Go.Proofs.YtcjmppgkojogdaaDoor
namespace Go.Proofs.YtcjmppgkojogdaaDoor
set_option linter.unusedVariables false
namespace Am
open Go.RowKit
section
variable {gs:List Nat} [OkG gs]
theorem num_ac (m:Nat) (hm:m≤28):ACp gs Tryd.prog 7 [.err m] (.c (.int .i64 m)) :=
 ac_old fun al w St vals hs hv hr=>by
  have h0:vals.getD 0 undef=ev al m:=hr 0
  rw [vals1 hv,h0]
  exact num_any hs.std m hm
end
section
variable {gs:List Nat} [OkG gs]

theorem alive35s_ac {gs:List Nat}:ACp gs Tryd.prog 4 [] (.c (.bool true)):=ac_old fun al w St vals hs hv hr=>by
 obtain rfl:vals=#[]:=Array.eq_empty_of_size_eq_zero hv
 exact alive35_any w
theorem rd_eqNN {P:Program} {G:Gh} {o:Oper} {s:AS} {t u e:TypeId} {x:Operand} (ho:o.op=.binOp .eql t x (.const (.pointer none)) u) (hx:s.eval x=.c (.pointer none)) (h1:P.underlying t=some (.pointer e)):ARd P G o s (.c (.bool true)):=fun St a w h=>by
 refine ⟨_,fun W _=>?_,rfl⟩
 simp only [execOp,ho,evC h hx]
 refine vOk ?_
 simp [eqG_ptr,binOp,run_nil_nil h1,Act.eval]
theorem bnewF_ac (room:Int) (h:¬ (1≤room∧room≤16)):AC gs Tryd.prog 6 [] [.c (.int .i64 room)] (fun r H=>r=.tup 2 (fl [.c (.pointer none),.err 1])∧H=[]):=(bnew_ac room).mono fun r H hq=>by unfold newQ at hq;rwa [if_neg h] at hq
theorem bnewT_ac (room:Nat) (h:1≤room∧room≤16):AC gs Tryd.prog 6 [] [.c (.int .i64 (room:Nat))] (fun r H=>∃ n,r=.tup 2 (fl [.op 0 (some n) 0,.err 0])∧H=[boxO n room 0 []]):=(bnew_ac (room:Nat)).mono fun r H hq=>by
 unfold newQ at hq
 rwa [if_pos (by omega),Int.toNat_natCast] at hq
theorem postBad_ac (room:Int) (l:List Ac35) (h:¬ (1≤room∧room≤16)):ACp gs Tryd.prog 3 [.c (.int .i64 room),acsC l] (.c (.bool true)):=by
 refine ac_oF 232 Tryd.func3 fun al w0 F0 St0=>?_;refine jcr ?_;refine jq jrm ?_;refine jN ?_;refine jcs ?_;refine jcr ?_
 refine jqe (jecP alive35s_ac ?_)
 refine jq jrn ?_;refine jN ?_;refine jcc (fun h46=>?_) fun h46=>?_
 ·exfalso;exact absurd h46 (by decide)
 refine jS (jtn ?_)
 refine jcs ?_;refine jcr ?_;refine jq jrm ?_
 refine jqe (jecP (long35_ac l) ?_)
 refine jN ?_;refine jcc (fun h49=>?_) fun h49=>?_
 ·refine jcr ?_;refine jq jrm ?_;refine jN ?_
  refine jR (jtr (jrt (hv:=cZ)))
 refine jS (jtn ?_)
 refine jcr ?_;refine jq jrm ?_
 refine jqe (jecP (bnewF_ac room h) ?_)
 refine jq jrm ?_;refine jq jrx ?_;refine jq jrx ?_;refine jq jrm ?_;refine jq jrm ?_;refine jN ?_;refine jcs ?_;refine jcr ?_;refine jq jrm ?_;refine jq jrc ?_;refine jq jrm ?_;refine jqsp 42 (fun g53=>?_) fun g53=>?_
 ·refine jqs ?_;refine jqs ?_;refine jq jrpT ?_;refine jN ?_;refine jcT ?_;refine jcr ?_;refine jq jrm ?_;refine jq (rd_eqNN rfl rfl Tryd.underlying25) ?_;refine jq jrm ?_;refine jqsp 48 (fun g54=>?_) fun g54=>?_
  ·refine jq jrm ?_
   refine jqe (jecP (num_ac 1 (by decide)) ?_)
   refine jq jrc ?_;refine jq jrpT ?_;refine jq jrm ?_;refine jN ?_
   refine jR (jtr (jrt (hv:=?_)))
   first|exact cB (by decide)|(cases g54;done)
  refine jqs ?_;refine jqs ?_;refine jqs ?_;refine jq jrpF ?_;refine jq jrm ?_;refine jN ?_
  refine jR (jtr (jrt (hv:=?_)))
  first|exact cB (by decide)|(cases g54;done)
 refine jq jrm ?_;refine jq jrc ?_;refine jq jrpF ?_;refine jN ?_;refine jcc (fun h53=>?_) fun h53=>?_
 rotate_left
 ·exfalso;exfalso;omega
 refine jcr ?_;refine jq jrm ?_;refine jq (rd_eqNN rfl rfl Tryd.underlying25) ?_;refine jq jrm ?_;refine jqsp 48 (fun g54=>?_) fun g54=>?_
 ·refine jq jrm ?_
  refine jqe (jecP (num_ac 1 (by decide)) ?_)
  refine jq jrc ?_;refine jq jrpT ?_;refine jq jrm ?_;refine jN ?_
  refine jR (jtr (jrt (hv:=?_)))
  first|exact cB (by decide)|(cases g54;done)
 refine jqs ?_;refine jqs ?_;refine jqs ?_;refine jq jrpF ?_;refine jq jrm ?_;refine jN ?_
 refine jR (jtr (jrt (hv:=?_)))
 first|exact cB (by decide)|(cases g54;done)
end
section
variable {gs:List Nat} [OkG gs]

def sw {α:Type} (w:Bool) (a b:α):α:=match w with|false=>a|true=>b
abbrev Ls:=List (List UInt8)
structure Rd35 where
 w:Bool
 nb:Nat
 no:Nat
 nm:Nat
 nn:Nat
 rb:Nat
 ro:Nat
 tb:Int
 to:Int
 lb:Ls
 lo:Ls
structure Ok35 (room nx ny nv nw i:Nat) (q:Rd35):Prop where
 nb:q.nb=sw q.w nx ny
 no:q.no=sw q.w ny nx
 nm:q.nm=sw q.w nv nw
 nn:q.nn=sw q.w nw nv
 rb:q.rb=sw q.w room 3
 ro:q.ro=sw q.w 3 room
 hb:q.lb.length≤q.rb∧q.rb≤16∧0≤q.tb∧q.tb≤i
 ho:q.lo.length≤q.ro∧q.ro≤16∧0≤q.to∧q.to≤i
def hs35 (q:Rd35):List (Option Nat×Res):=[boxO q.nb q.rb q.tb q.lb,boxO q.no q.ro q.to q.lo,modO q.nm q.rb q.tb q.lb,modO q.nn q.ro q.to q.lo]
theorem newM {G:Gh} {env:List (Nat×CV)} {b0:Nat→CV} {H:List (Option Nat×Res)} (i n room:Nat) {f:Nat→CV} (hi:H[i]?=some (some n,.blk 3 f)) (h0:CEnt (f 0) (.c (.int .i64 (room:Nat)))) (h1:CEnt (f 1) (.c (.int .i64 0))) (h2:CEnt (f 2) (.c (.slice none 0 0))):EntS G ⟨env,b0,H⟩ ⟨env,b0,H.set i (modO n room 0 [])⟩ :=
 weakH i 3 (mbF room 0 []) hi (Nat.le_refl _) fun j hj=>by
  rcases j with _|_|_|j
  ·exact h0
  ·exact h1
  ·exact h2.trans (CEnt.nilS _ _)
  ·omega
theorem bxPut_len {r:Nat} {x:List UInt8} {l:Ls} (h:l.length≤r):(bxPut r x l).length≤r:=by
 unfold bxPut
 split
 ·simp;omega
 ·exact h
theorem bxLost_bd (r:Nat) (l:Ls) (t:Int):t≤bxLost r l t∧bxLost r l t≤t+1:=by
 unfold bxLost
 split <;> omega
theorem tail_len {l:Ls} {r:Nat} (h:l.length≤r):l.tail.length≤r:=by simp;omega
theorem back35 {G:Gh} {env:List (Nat×CV)} {b0:Nat→CV} {room nx ny nv nw i:Nat} {q:Rd35} (h:Ok35 room nx ny nv nw i q) (tb to:Int) (lb lo:Ls):EntS G ⟨env,b0,hs35 { q with tb:=tb,to:=to,lb:=lb,lo:=lo }⟩ ⟨env,b0,[boxO nx room (sw q.w tb to) (sw q.w lb lo),boxO ny 3 (sw q.w to tb) (sw q.w lo lb),modO nv room (sw q.w tb to) (sw q.w lb lo),modO nw 3 (sw q.w to tb) (sw q.w lo lb)]⟩:=by
 obtain ⟨w,nb,no,nm,nn,rb,ro,tb',to',lb',lo'⟩:=q
 obtain ⟨e1,e2,e3,e4,e5,e6,_,_⟩:=h
 simp only at e1 e2 e3 e4 e5 e6
 subst e1 e2 e3 e4 e5 e6
 cases w with
 | false=>exact pick_ent [0,1,2,3] (by decide) rfl
 | true=>exact pick_ent [1,0,3,2] (by decide) rfl
theorem len35 {room nx ny nv nw i:Nat} {q:Rd35} (h:Ok35 room nx ny nv nw i q) {tb to:Int} {lb lo:Ls} (hk:lb.length≤q.rb∧0≤tb∧tb≤(i+1:Nat)∧lo.length≤q.ro∧0≤to∧to≤(i+1:Nat)):(sw q.w lb lo).length≤room∧(sw q.w lo lb).length≤3:=by
 have e5:=h.rb
 have e6:=h.ro
 obtain ⟨k1,_,_,k2,_,_⟩:=hk
 cases hw:q.w <;> (rw [hw] at e5 e6;simp only [sw] at e5 e6 ⊢;omega)
theorem keep35 {room nx ny nv nw i n:Nat} {q:Rd35} (h:Ok35 room nx ny nv nw i q) (hi:i<n) {tb to:Int} {lb lo:Ls} (hk:lb.length≤q.rb∧0≤tb∧tb≤(i+1:Nat)∧lo.length≤q.ro∧0≤to∧to≤(i+1:Nat)):i+1≤n∧(sw q.w lb lo).length≤room∧0≤sw q.w tb to∧sw q.w tb to≤(i+1:Nat)∧(sw q.w lo lb).length≤3∧0≤sw q.w to tb∧sw q.w to tb≤(i+1:Nat):=by
 obtain ⟨l1,l2⟩:=len35 h hk
 obtain ⟨_,k1,k2,_,k3,k4⟩:=hk
 refine ⟨hi,l1,?_,?_,l2,?_,?_⟩ <;> (cases q.w <;> assumption)
theorem rbputT_ac {gs:List Nat} (n room:Nat) (lost:Int) (l:Ls) (x:List UInt8) (h0:0≤lost) (h1:lost≤1000000) (h2:l.length≤1000) (h3:l.length<room):AC gs Tryd.prog 9 [modO n room lost l] [.op 0 (some n) 0,strC x] (fun r H'=>r=.c (.bool (decide (l.length<room)))∧H'=[modO n room lost (bxPut room x l)]):=by
 have e:bxLost room l lost=lost:=if_pos h3
 have:=rbput_ac (gs:=gs) n room lost l x h0 h1 h2
 rwa [e] at this
theorem ft35a {l m:Ls} (h:l.isEmpty=true):(if l.isEmpty=true then m.tail else m)=m.tail:=if_pos h
theorem ft35b {l m:Ls} (h:¬ l.isEmpty=true):(if l.isEmpty=true then m.tail else m)=m:=if_neg h
theorem mvB35 {l m:Ls} {r:Nat} (h:0<l.length) (h2:m.length<r):(!l.isEmpty && decide (m.length<r))=true:=by
 cases l with
 | nil=>simp at h
 | cons=>simp;exact h2
theorem mvN35 {l m:Ls} {r:Nat} (h:m.length<r→l.length=0):(!l.isEmpty && decide (m.length<r))=false:=by
 by_cases h2:m.length<r
 ·rw [List.eq_nil_of_length_eq_zero (h h2)];rfl
 ·rw [decide_eq_false h2,Bool.and_false]
theorem bo1 {a b:Bool} (h:a=true):(!a || !b)=!b:=by subst h;simp
theorem bo2 {a b:Bool} (h:a=false):(!a || !b)=!a:=by subst h;simp
theorem mv35a {l m:Ls} {r:Nat} (h:m.length<r):(if m.length<r then l.tail else l)=l.tail:=if_pos h
theorem mv35b {l m:Ls} {r:Nat} (h:m.length<r) (h2:0<l.length):(if l.isEmpty=true then m else bxPut r (l.headD []) m)=bxPut r (l.headD []) m:=if_neg fun h=>by rw [List.isEmpty_iff.1 h] at h2;simp at h2
theorem mv35c {l m:Ls} {r:Nat} (h:m.length<r→l.length=0):(if m.length<r then l.tail else l)=l:=by
 split
 ·rename_i h2
  rw [List.eq_nil_of_length_eq_zero (h h2)]
  rfl
 ·rfl
theorem mv35d {l m:Ls} {r:Nat} (h:m.length<r→l.length=0):(if l.isEmpty=true then m else bxPut r (l.headD []) m)=m:=by
 split
 ·rfl
 ·rename_i h2
  unfold bxPut
  rw [if_neg fun h3=>h2 (by rw [List.eq_nil_of_length_eq_zero (h h3)];rfl)]
set_option maxHeartbeats 4000000 in
theorem postGood_ac (room:Nat) (l:List Ac35) (h:1≤room∧room≤16):ACp gs Tryd.prog 3 [.c (.int .i64 (room:Nat)),acsC l] (.c (.bool true)):=by
 refine ac_oF 232 Tryd.func3 fun al w0 F0 St0=>?_;refine jcr ?_;refine jq jrm ?_;refine jN ?_;refine jcs ?_;refine jcr ?_
 refine jqe (jecP alive35s_ac ?_)
 refine jq jrn ?_;refine jN ?_;refine jcc (fun h46=>?_) fun h46=>?_
 ·exfalso;exact absurd h46 (by decide)
 refine jS (jtn ?_)
 refine jcs ?_;refine jcr ?_;refine jq jrm ?_
 refine jqe (jecP (long35_ac l) ?_)
 refine jN ?_;refine jcc (fun h49=>?_) fun h49=>?_
 ·refine jcr ?_;refine jq jrm ?_;refine jN ?_
  refine jR (jtr (jrt (hv:=cZ)))
 refine jS (jtn ?_)
 have hl60:l.length≤60:=by
  simp only [longA,Bool.or_eq_false_iff,decide_eq_false_iff_not] at h49
  omega
 refine jcr ?_;refine jq jrm ?_
 refine jqe (jecS (bnewT_ac room h) ?_)
 rintro _ _ ⟨nx,rfl,rfl⟩
 refine jq jrm ?_;refine jq jrx ?_;refine jq jrx ?_;refine jq jrm ?_;refine jq jrm ?_;refine jN ?_;refine jcs ?_;refine jcr ?_;refine jq jrm ?_;refine jq jrc ?_;refine jq jrm ?_;refine jqsp 42 (fun g53=>?_) fun g53=>?_
 ·exfalso;exfalso;omega
 refine jq jrm ?_;refine jq jrc ?_;refine jq jrpF ?_;refine jN ?_;refine jcc (fun h53=>?_) fun h53=>?_
 ·exfalso;exfalso;omega
 refine jS (jtn ?_)
 refine jcr ?_
 refine jqe (jecS (bnewT_ac 3 (by decide)) ?_)
 rintro _ _ ⟨ny,rfl,rfl⟩
 refine jq jrm ?_;refine jq jrx ?_;refine jq jrx ?_;refine jq jrm ?_;refine jq jrm ?_;refine jN ?_;refine jcs ?_;refine jcr ?_;refine jq jrm ?_;refine jq jre ?_;refine jq jrm ?_;refine jqsp 59 (fun g57=>?_) fun g57=>?_
 ·exfalso;(first|exact absurd rfl g57|cases g57)
 refine jq jrm ?_;refine jq jre ?_;refine jq jrpF ?_;refine jq jrm ?_;refine jqsp 63 (fun g57_2=>?_) fun g57_2=>?_
 ·exfalso;(first|exact absurd rfl g57_2|cases g57_2)
 refine jq jrm ?_
 first|refine jq (rd_eqP rfl rfl rfl Tryd.underlying25) ?_|refine jq (rd_eqPR rfl rfl rfl Tryd.underlying25) ?_|refine jq (rd_eqPN rfl rfl rfl Tryd.underlying25) ?_
 refine jq jrpF ?_;refine jq jrm ?_;refine jqsp 67 (fun g57_3=>?_) fun g57_3=>?_
 ·exfalso;(first|exact absurd rfl g57_3|cases g57_3)
 refine jq jrm ?_
 first|refine jq (rd_eqP rfl rfl rfl Tryd.underlying25) ?_|refine jq (rd_eqPR rfl rfl rfl Tryd.underlying25) ?_|refine jq (rd_eqPN rfl rfl rfl Tryd.underlying25) ?_
 refine jq jrpF ?_;refine jN ?_;refine jcc (fun h57=>?_) fun h57=>?_
 ·exfalso;(first|exact absurd rfl h57|cases h57)
 refine jS (jtn ?_)
 refine jcr ?_;refine jq jrm ?_;refine jq (rd_build (n:=3) rfl zr34 pl34 rfl rfl) ?_
 refine jqe (jebx 3 fun p1=>?_)
 refine jq (rd_build (n:=3) rfl zr34 pl34 rfl rfl) ?_
 refine jqe (jebx 3 fun p2=>?_)
 refine jq jrm ?_;refine jq jrm ?_;refine jN ?_;refine jcs ?_
 first
  |(refine jE (bag_pop 0 rfl) ?_;refine jE (bag_pop 0 rfl) ?_
    refine jE (pick_ent (H':=[bagE [boxO ny 3 (sw q.w to tb) (sw q.w lo lb),modO nw 3 (sw q.w to tb) (sw q.w lo lb)],boxO nx room (sw q.w tb to) (sw q.w lb lo),modO nv room (sw q.w tb to) (sw q.w lb lo)]) [1,2,3] (by decide) rfl) ?_;refine jE (bag_pop 0 rfl) ?_;refine jE (bag_pop 0 rfl) ?_
    refine jE (pick_ent (H':=[boxO nx room (sw q.w tb to) (sw q.w lb lo),boxO ny 3 (sw q.w to tb) (sw q.w lo lb),modO nv room (sw q.w tb to) (sw q.w lb lo),modO nw 3 (sw q.w to tb) (sw q.w lo lb)]) [1,3,2,4] (by decide) rfl) ?_)
  | skip
 refine jcr ?_;refine jq jrm ?_;refine jq jrl ?_;refine jq jrm ?_;refine jN ?_;refine jB ?_;refine code_knowG (know_op 9 rfl) fun ⟨nv,hv⟩=>?_;refine code_knowG (know_op 10 rfl) fun ⟨nw,hw⟩=>?_
 subst hv hw
 refine jE (newM 2 nv room rfl cZ cZ cZ) ?_;refine jE (newM 3 nw 3 rfl cZ cZ cZ) ?_
 dsimp only [List.set_cons_zero,List.set_cons_succ,List.cons_append,List.nil_append,List.length_cons,List.length_nil,Nat.zero_add,Nat.reduceAdd]
 refine l_loop (α:=Nat×Int×Ls×Int×Ls) [4,12,13,14,15,16,17,18,19,20,21,22,23,24,25,26,27,28,29,30,78,79,80,81,82,83,84,85,86,87,88,89,90,91,92,93,94,95,96,97,98,99,100,101,102,103,104,105,106,107,108,109,110,111,112,113,114,115,116,117,118,119,120,121,122,123,124,125,126,127,128,129,130,131,132,133,134,135,136,137,138,139,140,141,142,143,144,145,146,147,148,149,150,151,152,153,154,155,156,157,158,159,160,161,162,163,164,165,166,167,168,169,170,171,172,173,174,175,176,177,178,179,180,181,182,183,184,185,186,187,188,189,190,191,192,193,194,195,196,197,198,199,200,201,202,203,204,205,206,207,208,209,210,211,212,213,214,215,216,217,218,219,220,221,222,223,224,225,226,227,228,229,230,231] (fun (i,tx,lx,ty,ly)=>[(78,.c (.int .i64 (i:Nat)))]) (fun (i,tx,lx,ty,ly)=>[boxO nx room tx lx,boxO ny 3 ty ly,modO nv room tx lx,modO nw 3 ty ly]) (fun (i,tx,lx,ty,ly)=>i≤l.length∧lx.length≤room∧0≤tx∧tx≤i∧ly.length≤3∧0≤ty∧ty≤i) (fun (i,tx,lx,ty,ly)=>l.length-i) ((0,0,[],0,[])) ?_ (fun _=>rfl) ?_ ?_ ?_
 ·simp
 ·(repeat (first|exact EntE.nil|refine EntE.cons cZ ?_|refine EntE.cons (cI (by omega)) ?_))
 ·exact HEnt.refl _
 ·rintro ⟨i,tx,lx,ty,ly⟩ ⟨(hi:i≤l.length),(hx1:lx.length≤room),(hx2:0≤tx),(hx3:tx≤i),(hy1:ly.length≤3),(hy2:0≤ty),(hy3:ty≤i)⟩
  first
   |(refine jE (bag_pop 0 rfl) ?_;refine jE (bag_pop 0 rfl) ?_
     refine jE (pick_ent (H':=[bagE [boxO ny 3 (sw q.w to tb) (sw q.w lo lb),modO nw 3 (sw q.w to tb) (sw q.w lo lb)],boxO nx room (sw q.w tb to) (sw q.w lb lo),modO nv room (sw q.w tb to) (sw q.w lb lo)]) [1,2,3] (by decide) rfl) ?_;refine jE (bag_pop 0 rfl) ?_;refine jE (bag_pop 0 rfl) ?_
     refine jE (pick_ent (H':=[boxO nx room (sw q.w tb to) (sw q.w lb lo),boxO ny 3 (sw q.w to tb) (sw q.w lo lb),modO nv room (sw q.w tb to) (sw q.w lb lo),modO nw 3 (sw q.w to tb) (sw q.w lo lb)]) [1,3,2,4] (by decide) rfl) ?_)
   | skip
  refine jcr ?_;refine jq jrc ?_;refine jN ?_;refine jcs ?_;refine jcc (fun h61=>?_) fun h61=>?_
  rotate_left
  ·refine jX (jte (jte (jbx (jtn ?_))))
   refine jcr ?_;refine jq jrm ?_;refine jN ?_
   refine jR jrt
  refine jS (jtn ?_)
  refine jcs ?_;refine jB ?_
  first
   |(refine jE (bag_pop 0 rfl) ?_;refine jE (bag_pop 0 rfl) ?_
     refine jE (pick_ent (H':=[bagE [boxO ny 3 (sw q.w to tb) (sw q.w lo lb),modO nw 3 (sw q.w to tb) (sw q.w lo lb)],boxO nx room (sw q.w tb to) (sw q.w lb lo),modO nv room (sw q.w tb to) (sw q.w lb lo)]) [1,2,3] (by decide) rfl) ?_;refine jE (bag_pop 0 rfl) ?_;refine jE (bag_pop 0 rfl) ?_
     refine jE (pick_ent (H':=[boxO nx room (sw q.w tb to) (sw q.w lb lo),boxO ny 3 (sw q.w to tb) (sw q.w lo lb),modO nv room (sw q.w tb to) (sw q.w lb lo),modO nw 3 (sw q.w to tb) (sw q.w lo lb)]) [1,3,2,4] (by decide) rfl) ?_)
   | skip
  refine jcr ?_;refine jq jri ?_
  first|refine jqo (jrdoA 3) ?_|refine jq (jrdrA 3) ?_
  refine jqe (jeal (n:=3) zr36 rfl fun p3=>?_)
  refine jqm (jmst 3 ?_)
  refine jN ?_
  have hi2:i<l.length:=by omega
  obtain ⟨a,ha⟩:∃ a,a=l.getD i (0,false,[]):=⟨_,rfl⟩
  refine jE (freeze 4 rfl) ?_;refine jE (thawP 12 (m:=3) rfl rfl (by decide)) ?_;refine jcr ?_;refine jq jrm ?_;refine jq jrm ?_;refine jq jrm ?_;refine jq jrm ?_;refine jq jrm ?_;refine jq jrm ?_;refine jq jrm ?_;refine jq jrm ?_;refine jN ?_;refine code_join (α:=Rd35) [13,14,15,16,86,87,88,89,90,91] (fun q=>[(13,.op 0 (some q.nb) 0),(14,.op 1 (some q.no) 0),(15,.op 2 (some q.nm) 0),(16,.op 3 (some q.nn) 0)]) (fun q=>hs35 q) (fun q=>Ok35 room nx ny nv nw i q) (fun _=>rfl) ?_ ?_
  ·refine jcr ?_;refine jq (jrfa 1 1 false) ?_
   first|refine jqo jrdo ?_|refine jq jrdr ?_
   refine jN ?_;refine jcc (fun h63=>?_) fun h63=>?_
   rotate_left
   ·refine jS (jtn ?_)
    refine jjend (⟨false,nx,ny,nv,nw,room,3,tx,ty,lx,ly⟩) ?_ (h5:=?_) (h7:=?_)
    ·refine ⟨rfl,rfl,rfl,rfl,rfl,rfl,⟨by assumption,?_,by assumption,by assumption⟩,⟨by assumption,?_,by assumption,by assumption⟩⟩ <;> first|exact h.2|exact (show 3≤16 by decide)
    ·exact .cons cP (.cons cP (.cons cP (.cons cP .nil)))
    ·exact HEnt.refl _
   refine jE (pick_ent (H':=[boxO ny 3 ty ly,boxO nx room tx lx,modO nw 3 ty ly,modO nv room tx lx]) [1,0,3,2] (by decide) rfl) ?_;refine jcg ?_;refine jq jrm ?_;refine jq jrm ?_;refine jq jrm ?_;refine jq jrm ?_;refine jq jrm ?_;refine jq jrm ?_;refine jq jrm ?_;refine jq jrm ?_;refine jN ?_;refine jtn ?_
   refine jjend (⟨true,ny,nx,nw,nv,3,room,ty,tx,ly,lx⟩) ?_ (h5:=?_) (h7:=?_)
   ·refine ⟨rfl,rfl,rfl,rfl,rfl,rfl,⟨by assumption,?_,by assumption,by assumption⟩,⟨by assumption,?_,by assumption,by assumption⟩⟩ <;> first|exact h.2|exact (show 3≤16 by decide)
   ·exact .cons cP (.cons cP (.cons cP (.cons cP .nil)))
   ·exact HEnt.refl _
  ·rintro q (hq:Ok35 room nx ny nv nw i q)
   have hL:=bxLost_bd q.rb q.lb q.tb
   obtain ⟨hb1,hb2,hb3,hb4⟩:=hq.hb
   obtain ⟨ho1,ho2,ho3,ho4⟩:=hq.ho
   refine jcr ?_;refine jq jrm ?_;refine jN ?_;refine code_join (α:=Int×Ls×Int×Ls) [17,18,19,20,21,22,23,24,25,26,27,28,29,30,92,93,94,95,96,97,98,99,100,101,102,103,104,105,106,107,108,109,110,111,112,113,114,115,116,117,118,119,120,121,122,123,124,125,126,127,128,129,130,131,132,133,134,135,136,137,138,139,140,141,142,143,144,145,146,147,148,149,150,151,152,153,154,155,156,157,158,159,160,161,162,163,164,165,166,167,168,169,170,171,172,173,174,175,176,177,178,179,180,181,182,183,184,185,186,187,188,189,190,191,192,193,194,195,196,197,198,199,200,201,202,203,204,205,206,207,208,209,210,211,212,213,214,215,216] (fun (tb,lb,to,lo)=>[(17,.c (.bool true))]) (fun (tb,lb,to,lo)=>hs35 { q with tb:=tb,lb:=lb,to:=to,lo:=lo }) (fun (tb,lb,to,lo)=>lb.length≤q.rb∧0≤tb∧tb≤(i+1:Nat)∧lo.length≤q.ro∧0≤to∧to≤(i+1:Nat)) (fun _=>rfl) ?_ ?_
   ·refine jcr ?_;refine jq (jrfa 0 1 false) ?_
    first|refine jqo jrdo ?_|refine jq jrdr ?_
    refine jN ?_;refine jB ?_;refine jcr ?_;refine jq jrc ?_;refine jq jrm ?_;refine jN ?_;refine jcc (fun h68=>?_) fun h68=>?_
    ·refine jcdZ (.rd 0 (.rd 1 (.rd 2 (.rd 4 (.rd 5 (.rd 6 (.one 3 (.one 7 (.rd 8 (.rd 9 .done)))))))))) ?_;refine jzq jrm ?_;refine jzq (jrfa 2 1 false) ?_
     first|refine jzo jrdo ?_|refine jzq jrdr ?_
     refine jzq jrm ?_;refine jzq (jrfa 2 1 false) ?_
     first|refine jzo jrdo ?_|refine jzq jrdr ?_
     refine jzm (jmcE 0 (bPut_ac q.nb q.rb q.tb q.lb (l.getD i (0,false,[])).2.2 (by omega) (by omega)) ?_)
     refine jzm (jmcE 2 (rbput_ac q.nm q.rb q.tb q.lb (l.getD i (0,false,[])).2.2 (by omega) (by omega) (by omega)) ?_)
     refine jzq jrcb ?_;refine jzq jrm ?_;refine jzd ?_
     refine jbn (jtn ?_)
     refine jjend ((bxLost q.rb q.lb q.tb,bxPut q.rb (l.getD i (0,false,[])).2.2 q.lb,q.to,q.lo)) ?_ (h5:=?_) (h7:=?_)
     ·show _∧_∧_∧_∧_∧_
      refine ⟨?_,?_,?_,?_,?_,?_⟩ <;> first|omega|exact bxPut_len (by first|omega|exact tail_len hb1)|exact tail_len hb1|exact tail_len ho1|(split <;> first|omega|exact bxPut_len (by first|omega|exact tail_len hb1))
     ·exact .cons (cB (by simp)) .nil
     ·exact HEnt.refl _
    refine jcr ?_;refine jq jrc ?_;refine jq jrm ?_;refine jN ?_;refine jcc (fun h70=>?_) fun h70=>?_
    ·refine jcr ?_;refine jq jrm ?_
     refine jqm (jmcE 0 (btake_ac q.nb q.rb q.tb q.lb) ?_)
     refine jq jrm ?_;refine jq jrx ?_;refine jq jrx ?_;refine jq jrm ?_;refine jq jrm ?_;refine jN ?_;refine jcr ?_;refine jq jrm ?_
     refine jqm (jmcE 2 (rbtake_ac q.nm q.rb q.tb q.lb) ?_)
     refine jq jrm ?_;refine jq jrx ?_;refine jq jrx ?_;refine jq jrm ?_;refine jq jrm ?_;refine jN ?_;refine jcg ?_;refine jq jrm ?_;refine jq jrm ?_;refine jq jrcs ?_;refine jq jrm ?_;refine jqsp 120 (fun g73=>?_) fun g73=>?_
     rotate_left
     ·exfalso;exact absurd rfl g73
     refine jq jrm ?_;refine jq jrm ?_;refine jq jrcb ?_;refine jq jrpT ?_;refine jq jrm ?_;refine jN ?_
     refine jbn (jtn ?_)
     refine jjend ((q.tb,q.lb.tail,q.to,q.lo)) ?_ (h5:=?_) (h7:=?_)
     ·show _∧_∧_∧_∧_∧_
      refine ⟨?_,?_,?_,?_,?_,?_⟩ <;> first|omega|exact bxPut_len (by first|omega|exact tail_len hb1)|exact tail_len hb1|exact tail_len ho1|(split <;> first|omega|exact bxPut_len (by first|omega|exact tail_len hb1))
     ·exact .cons (cB (by simp)) .nil
     ·exact HEnt.refl _
    refine jcr ?_;refine jq jrc ?_;refine jq jrm ?_;refine jN ?_;refine jcc (fun h74=>?_) fun h74=>?_
    ·refine jcg ?_;refine jq jrm ?_
     refine jqm (jmcE 0 (bdrop_ac q.nb q.rb q.tb q.lb (by omega) (by omega)) ?_)
     refine jq jrm ?_
     refine jqm (jmcE 2 (rbdrop_ac q.nm q.rb q.tb q.lb (by omega) (by omega)) ?_)
     refine jq jrcb ?_;refine jq jrm ?_;refine jN ?_
     refine jbn (jtn ?_)
     refine jjend ((if q.lb.isEmpty then q.tb else q.tb+1,q.lb.tail,q.to,q.lo)) ?_ (h5:=?_) (h7:=?_)
     ·show _∧_∧_∧_∧_∧_
      refine ⟨?_,?_,?_,?_,?_,?_⟩ <;> first|omega|exact bxPut_len (by first|omega|exact tail_len hb1)|exact tail_len hb1|exact tail_len ho1|(split <;> first|omega|exact bxPut_len (by first|omega|exact tail_len hb1))
     ·exact .cons (cB (by simp)) .nil
     ·exact HEnt.refl _
    refine jcr ?_;refine jq jrc ?_;refine jq jrm ?_;refine jN ?_;refine jcc (fun h76=>?_) fun h76=>?_
    ·refine jcg ?_;refine jq jrm ?_
     refine jqm (jmcE 0 (bturn_ac q.nb q.rb q.tb q.lb) ?_)
     refine jq jrm ?_
     refine jqm (jmcE 2 (rbturn_ac q.nm q.rb q.tb q.lb (by omega) (by omega) (by omega) (by omega)) ?_)
     refine jq jrcb ?_;refine jq jrm ?_;refine jN ?_
     refine jbn (jtn ?_)
     refine jjend ((q.tb,if q.lb.isEmpty then q.lb else bxPut q.rb (q.lb.headD []) q.lb.tail,q.to,q.lo)) ?_ (h5:=?_) (h7:=?_)
     ·show _∧_∧_∧_∧_∧_
      refine ⟨?_,?_,?_,?_,?_,?_⟩ <;> first|omega|exact bxPut_len (by first|omega|exact tail_len hb1)|exact tail_len hb1|exact tail_len ho1|(split <;> first|omega|exact bxPut_len (by first|omega|exact tail_len hb1))
     ·exact .cons (cB (by simp)) .nil
     ·exact HEnt.refl _
    refine jcr ?_;refine jq jrc ?_;refine jq jrm ?_;refine jN ?_;refine jcc (fun h78=>?_) fun h78=>?_
    ·refine jcg ?_;refine jq jrm ?_
     refine jqm (jmcE 0 (btwice_ac q.nb q.rb q.tb q.lb (by omega) (by omega)) ?_)
     refine jq jrm ?_
     refine jqm (jmcE 2 (rbtwice_ac q.nm q.rb q.tb q.lb (by omega) (by omega) (by omega)) ?_)
     refine jq jrcb ?_;refine jq jrm ?_;refine jN ?_
     refine jbn (jtn ?_)
     refine jjend ((q.tb,if q.lb.isEmpty then q.lb else bxPut q.rb (q.lb.getD 0 []) q.lb,q.to,q.lo)) ?_ (h5:=?_) (h7:=?_)
     ·show _∧_∧_∧_∧_∧_
      refine ⟨?_,?_,?_,?_,?_,?_⟩ <;> first|omega|exact bxPut_len (by first|omega|exact tail_len hb1)|exact tail_len hb1|exact tail_len ho1|(split <;> first|omega|exact bxPut_len (by first|omega|exact tail_len hb1))
     ·exact .cons (cB (by simp)) .nil
     ·exact HEnt.refl _
    refine jcr ?_;refine jq jrc ?_;refine jq jrm ?_;refine jN ?_;refine jcc (fun h80=>?_) fun h80=>?_
    rotate_left
    ·refine jcr ?_;refine jq jrc ?_;refine jq jrm ?_;refine jN ?_;refine jcc (fun h92=>?_) fun h92=>?_
     rotate_left
     ·refine jS (jbn (jtn ?_))
      refine jjend ((q.tb,q.lb,q.to,q.lo)) ?_ (h5:=?_) (h7:=?_)
      ·show _∧_∧_∧_∧_∧_
       refine ⟨?_,?_,?_,?_,?_,?_⟩ <;> first|omega|exact bxPut_len (by first|omega|exact tail_len hb1)|exact tail_len hb1|exact tail_len ho1|(split <;> first|omega|exact bxPut_len (by first|omega|exact tail_len hb1))
      ·exact .cons cZ .nil
      ·exact HEnt.refl _
     refine jcs ?_;refine jcd (.rd 0 (.rd 1 (.rd 2 (.rd 3 (.rd 4 (.rd 5 (.rd 6 (.rd 7 (.rd 8 (.rd 9 (.rd 10 (.rd 11 (.rd 12 (.rd 13 (.rd 14 (.rd 15 (.rd 16 (.rd 17 (.rd 18 .done))))))))))))))))))) ?_;refine jyq jrm ?_;refine jyq jrnc ?_;refine jyq (jrfa 2 1 false) ?_
     first|refine jyo jrdo ?_|refine jyq jrdr ?_
     refine jyq jrl ?_;refine jyq jrc ?_;refine jyq jrm ?_;refine jysp 191 (fun g93=>?_) fun g93=>?_
     rotate_left
     ·refine jys ?_;refine jys ?_;refine jys ?_;refine jys ?_;refine jys ?_;refine jys ?_;refine jys ?_;refine jys ?_;refine jys ?_;refine jys ?_;refine jyq jrpF ?_;refine jyq jrm ?_;refine jyd ?_;refine jtn ?_;refine jcs ?_;refine jcr ?_;refine jq jrm ?_;refine jN ?_;refine jcF ?_
      refine jS (jtn ?_)
      refine jcg ?_;refine jq jrm ?_;refine jq jrm ?_;refine seq_ent bag_new ?_;refine seq_ent (bag_push 4 1 rfl rfl rfl) ?_;refine seq_ent (bag_push 4 0 rfl rfl rfl) ?_
      refine jqm (jmcE 4 (bmove_ac q.nb q.rb q.no q.ro q.tb q.to q.lb q.lo ho1) ?_)
      refine seq_ent (bag_pop 4 rfl) ?_;refine seq_ent (bag_pop 4 rfl) ?_;refine seq_ent (pick_ent (H':=[boxO q.nb q.rb q.tb (if q.lo.length<q.ro then q.lb.tail else q.lb),boxO q.no q.ro q.to (if q.lb.isEmpty=true then q.lo else bxPut q.ro (q.lb.headD []) q.lo),_,_]) [5,6,2,3] (by decide) rfl) ?_;refine jq jrm ?_;refine jq jrcb ?_;refine jq jrm ?_;refine jN ?_
      refine jbn (jtn ?_)
      refine jjend ((q.tb,q.lb,q.to,q.lo)) ?_ (h5:=?_) (h7:=?_)
      ·show _∧_∧_∧_∧_∧_
       refine ⟨?_,?_,?_,?_,?_,?_⟩ <;> first|omega|exact bxPut_len (by first|omega|exact tail_len hb1)|exact tail_len hb1|exact tail_len ho1|(split <;> first|omega|exact bxPut_len (by first|omega|exact tail_len hb1))
      ·exact .cons (cB (by rw [mvN35 (by omega)];first|rfl|(simp;omega))) .nil
      ·rw [mv35c (by omega),mv35d (by omega)]
       exact HEnt.refl _
     refine jyq jrm ?_;refine jyq jrnc ?_;refine jyq (jrfa 2 1 false) ?_
     first|refine jyo jrdo ?_|refine jyq jrdr ?_
     refine jyq jrl ?_;refine jyq jrm ?_;refine jyq jrnc ?_;refine jyq (jrfa 0 1 false) ?_
     first|refine jyo jrdo ?_|refine jyq jrdr ?_
     refine jyq jrc ?_;refine jyq jrpT ?_;refine jyq jrm ?_;refine jyd ?_;refine jtn ?_;refine jcs ?_;refine jcr ?_;refine jq jrm ?_;refine jN ?_;refine jcc (fun h94=>?_) fun h94=>?_
     rotate_left
     ·refine jS (jtn ?_)
      refine jcg ?_;refine jq jrm ?_;refine jq jrm ?_;refine seq_ent bag_new ?_;refine seq_ent (bag_push 4 1 rfl rfl rfl) ?_;refine seq_ent (bag_push 4 0 rfl rfl rfl) ?_
      refine jqm (jmcE 4 (bmove_ac q.nb q.rb q.no q.ro q.tb q.to q.lb q.lo ho1) ?_)
      refine seq_ent (bag_pop 4 rfl) ?_;refine seq_ent (bag_pop 4 rfl) ?_;refine seq_ent (pick_ent (H':=[boxO q.nb q.rb q.tb (if q.lo.length<q.ro then q.lb.tail else q.lb),boxO q.no q.ro q.to (if q.lb.isEmpty=true then q.lo else bxPut q.ro (q.lb.headD []) q.lo),_,_]) [5,6,2,3] (by decide) rfl) ?_;refine jq jrm ?_;refine jq jrcb ?_;refine jq jrm ?_;refine jN ?_
      refine jbn (jtn ?_)
      refine jjend ((q.tb,q.lb,q.to,q.lo)) ?_ (h5:=?_) (h7:=?_)
      ·show _∧_∧_∧_∧_∧_
       refine ⟨?_,?_,?_,?_,?_,?_⟩ <;> first|omega|exact bxPut_len (by first|omega|exact tail_len hb1)|exact tail_len hb1|exact tail_len ho1|(split <;> first|omega|exact bxPut_len (by first|omega|exact tail_len hb1))
      ·exact .cons (cB (by rw [mvN35 (by omega)];first|rfl|(simp;omega))) .nil
      ·rw [mv35c (by omega),mv35d (by omega)]
       exact HEnt.refl _
     refine jcr ?_;refine jq jrm ?_
     refine jqm (jmcE 2 (rbtake_ac q.nm q.rb q.tb q.lb) ?_)
     refine jq jrm ?_;refine jq jrx ?_;refine jq jrx ?_;refine jq jrm ?_;refine jq jrm ?_;refine jN ?_;refine jcg ?_;refine jq jrm ?_;refine jq jrm ?_
     refine jqm (jmcE 3 (rbputT_ac q.nn q.ro q.to q.lo (q.lb.headD []) (by omega) (by omega) (by omega) (by omega)) ?_)
     refine jN ?_;refine jtn ?_;refine jcg ?_;refine jq jrm ?_;refine jq jrm ?_;refine seq_ent bag_new ?_;refine seq_ent (bag_push 4 1 rfl rfl rfl) ?_;refine seq_ent (bag_push 4 0 rfl rfl rfl) ?_
     refine jqm (jmcE 4 (bmove_ac q.nb q.rb q.no q.ro q.tb q.to q.lb q.lo ho1) ?_)
     refine seq_ent (bag_pop 4 rfl) ?_;refine seq_ent (bag_pop 4 rfl) ?_;refine seq_ent (pick_ent (H':=[boxO q.nb q.rb q.tb (if q.lo.length<q.ro then q.lb.tail else q.lb),boxO q.no q.ro q.to (if q.lb.isEmpty=true then q.lo else bxPut q.ro (q.lb.headD []) q.lo),_,_]) [5,6,2,3] (by decide) rfl) ?_;refine jq jrm ?_;refine jq jrcb ?_;refine jq jrm ?_;refine jN ?_
     refine jbn (jtn ?_)
     refine jjend ((q.tb,q.lb.tail,q.to,bxPut q.ro (q.lb.headD []) q.lo)) ?_ (h5:=?_) (h7:=?_)
     ·show _∧_∧_∧_∧_∧_
      refine ⟨?_,?_,?_,?_,?_,?_⟩ <;> first|omega|exact bxPut_len (by first|omega|exact tail_len hb1)|exact tail_len hb1|exact tail_len ho1|(split <;> first|omega|exact bxPut_len (by first|omega|exact tail_len hb1))
     ·exact .cons (cB (by rw [mvB35 (by omega) (by omega)];first|rfl|(simp;omega))) .nil
     ·rw [mv35a (by omega),mv35b (by omega) (by omega)]
      exact HEnt.refl _
    refine jcr ?_;refine jq jrm ?_;refine jq jrm ?_
    refine jqe (jebl 3 1 zr25 fun p4=>?_)
    refine seq_ent (freeze 4 rfl) ?_;refine seq_ent (thaw 151 (fun i _=>fl [.c (.pointer none),.op 0 (some q.nb) 0,.op 0 (some q.no) 0] i) rfl rfl (by decide) (fun a b ha hb=>by rcases a with _|_|_|a <;> rcases b with _|b <;> first|exact cZ|exact cP|omega)) ?_;refine seq_ent (pick_ent (H':=hs35 q) [0,1,2,3] (by decide) rfl) ?_;refine seq_ent bag_new ?_;refine seq_ent (bag_push 4 1 rfl rfl rfl) ?_;refine seq_ent (bag_push 4 0 rfl rfl rfl) ?_;refine seq_ent (pick_ent (H':=[bagE [boxO q.nb q.rb q.tb q.lb,boxO q.no q.ro q.to q.lo],modO q.nm q.rb q.tb q.lb,modO q.nn q.ro q.to q.lo]) [4,2,3] (by decide) rfl) ?_
    refine jqm (jmcE 0 (bfirst_ac q.nb q.rb q.no q.ro q.tb q.to q.lb q.lo) ?_)
    refine jq jrm ?_;refine jq jrx ?_;refine jq jrx ?_;refine jq jrx ?_;refine jq jrm ?_;refine jq jrm ?_;refine jq jrm ?_;refine jN ?_;refine jE (bag_pop 0 rfl) ?_;refine jE (bag_pop 0 rfl) ?_;refine jE (pick_ent (H':=[boxO q.nb q.rb q.tb q.lb.tail,boxO q.no q.ro q.to (if q.lb.isEmpty then q.lo.tail else q.lo),modO q.nm q.rb q.tb q.lb,modO q.nn q.ro q.to q.lo]) [3,4,1,2] (by decide) rfl) ?_;refine jcr ?_;refine jq jrm ?_
    refine jqm (jmcE 2 (rbtake_ac q.nm q.rb q.tb q.lb) ?_)
    refine jq jrm ?_;refine jq jrx ?_;refine jq jrx ?_;refine jq jrm ?_;refine jq jrm ?_;refine jN ?_;refine jcr ?_;refine jq jrm ?_;refine jN ?_;refine jcs ?_;refine jcr ?_;refine jq jrm ?_;refine jq jrn ?_;refine jN ?_;refine jcc (fun h84=>?_) fun h84=>?_
    rotate_left
    ·refine jS (jtn ?_)
     refine jcs ?_;refine jcr ?_;refine jq jrm ?_;refine jq jrn ?_;refine jN ?_;refine jcc (fun h88=>?_) fun h88=>?_
     rotate_left
     ·refine jS (jtn ?_)
      refine jcg ?_;refine jq jrm ?_;refine jq jrm ?_;refine jq jrcs ?_;refine jq jrm ?_;refine jqsp 173 (fun g91=>?_) fun g91=>?_
      rotate_left
      ·exfalso;(first|exact absurd (if_pos (show q.lb.isEmpty=true by simpa using h84)) g91|exact absurd (if_neg (show ¬ q.lb.isEmpty=true by simpa using h84)) g91)
      refine jq jrm ?_;refine jq jrm ?_;refine jq jrcb ?_;refine jq jrpT ?_;refine jq jrm ?_;refine jqsp 178 (fun g91_2=>?_) fun g91_2=>?_
      rotate_left
      ·exfalso;(first|exact absurd (bo1 (show q.lb.isEmpty=true by simpa using h84)) g91_2|exact absurd (bo2 (Bool.eq_false_iff.2 (show ¬ q.lb.isEmpty=true by simpa using h84))) g91_2)
      refine jq jrm ?_;refine jq jrm ?_;refine jq jrc ?_;refine jq jrpT ?_;refine jq jrm ?_;refine jN ?_
      refine jbn (jtn ?_)
      refine jjend ((q.tb,q.lb.tail,q.to,q.lo)) ?_ (h5:=?_) (h7:=?_)
      ·show _∧_∧_∧_∧_∧_
       refine ⟨?_,?_,?_,?_,?_,?_⟩ <;> first|omega|exact bxPut_len (by first|omega|exact tail_len hb1)|exact tail_len hb1|exact tail_len ho1|(split <;> first|omega|exact bxPut_len (by first|omega|exact tail_len hb1))
      ·exact .cons (cB (by rw [if_neg (show ¬ q.lb.isEmpty=true by simpa using h84)];rfl)) .nil
      ·rw [ft35b (show ¬ q.lb.isEmpty=true by simpa using h84)]
       exact HEnt.refl _
     refine jcg ?_;refine jq jrm ?_;refine jN ?_;refine jtn ?_;refine jcg ?_;refine jq jrm ?_;refine jq jrm ?_;refine jq jrcs ?_;refine jq jrm ?_;refine jqsp 173 (fun g91=>?_) fun g91=>?_
     rotate_left
     ·exfalso;(first|exact absurd (if_pos (show q.lb.isEmpty=true by simpa using h84)) g91|exact absurd (if_neg (show ¬ q.lb.isEmpty=true by simpa using h84)) g91)
     refine jq jrm ?_;refine jq jrm ?_;refine jq jrcb ?_;refine jq jrpT ?_;refine jq jrm ?_;refine jqsp 178 (fun g91_2=>?_) fun g91_2=>?_
     rotate_left
     ·exfalso;(first|exact absurd (bo1 (show q.lb.isEmpty=true by simpa using h84)) g91_2|exact absurd (bo2 (Bool.eq_false_iff.2 (show ¬ q.lb.isEmpty=true by simpa using h84))) g91_2)
     refine jq jrm ?_;refine jq jrm ?_;refine jq jrc ?_;refine jq jrpT ?_;refine jq jrm ?_;refine jN ?_
     refine jbn (jtn ?_)
     refine jjend ((q.tb,q.lb.tail,q.to,q.lo)) ?_ (h5:=?_) (h7:=?_)
     ·show _∧_∧_∧_∧_∧_
      refine ⟨?_,?_,?_,?_,?_,?_⟩ <;> first|omega|exact bxPut_len (by first|omega|exact tail_len hb1)|exact tail_len hb1|exact tail_len ho1|(split <;> first|omega|exact bxPut_len (by first|omega|exact tail_len hb1))
     ·exact absurd (h88.symm.trans h84) (by decide)
     ·exact absurd (h88.symm.trans h84) (by decide)
    refine jcr ?_;refine jq jrm ?_;refine jN ?_;refine jcg ?_;refine jq jrm ?_
    refine jqm (jmcE 3 (rbtake_ac q.nn q.ro q.to q.lo) ?_)
    refine jq jrm ?_;refine jq jrx ?_;refine jq jrx ?_;refine jq jrm ?_;refine jq jrm ?_;refine jN ?_;refine jtn ?_;refine jcs ?_;refine jcr ?_;refine jq jrm ?_;refine jq jrn ?_;refine jN ?_;refine jcc (fun h88=>?_) fun h88=>?_
    rotate_left
    ·refine jS (jtn ?_)
     refine jcg ?_;refine jq jrm ?_;refine jq jrm ?_;refine jq jrcs ?_;refine jq jrm ?_;refine jqsp 173 (fun g91=>?_) fun g91=>?_
     rotate_left
     ·exfalso;(first|exact absurd (if_pos (show q.lb.isEmpty=true by simpa using h84)) g91|exact absurd (if_neg (show ¬ q.lb.isEmpty=true by simpa using h84)) g91)
     refine jq jrm ?_;refine jq jrm ?_;refine jq jrcb ?_;refine jq jrpT ?_;refine jq jrm ?_;refine jqsp 178 (fun g91_2=>?_) fun g91_2=>?_
     rotate_left
     ·exfalso;(first|exact absurd (bo1 (show q.lb.isEmpty=true by simpa using h84)) g91_2|exact absurd (bo2 (Bool.eq_false_iff.2 (show ¬ q.lb.isEmpty=true by simpa using h84))) g91_2)
     refine jq jrm ?_;refine jq jrm ?_;refine jq jrc ?_;refine jq jrpT ?_;refine jq jrm ?_;refine jN ?_
     refine jbn (jtn ?_)
     refine jjend ((q.tb,q.lb.tail,q.to,q.lo.tail)) ?_ (h5:=?_) (h7:=?_)
     ·show _∧_∧_∧_∧_∧_
      refine ⟨?_,?_,?_,?_,?_,?_⟩ <;> first|omega|exact bxPut_len (by first|omega|exact tail_len hb1)|exact tail_len hb1|exact tail_len ho1|(split <;> first|omega|exact bxPut_len (by first|omega|exact tail_len hb1))
     ·exact .cons (cB (by rw [if_pos (show q.lb.isEmpty=true by simpa using h84),if_neg (show ¬ q.lo.isEmpty=true by simpa using h88)];rfl)) .nil
     ·rw [ft35a (show q.lb.isEmpty=true by simpa using h84)]
      exact HEnt.refl _
    refine jcg ?_;refine jq jrm ?_;refine jN ?_;refine jtn ?_;refine jcg ?_;refine jq jrm ?_;refine jq jrm ?_;refine jq jrcs ?_;refine jq jrm ?_;refine jqsp 173 (fun g91=>?_) fun g91=>?_
    rotate_left
    ·exfalso;(first|exact absurd (if_pos (show q.lb.isEmpty=true by simpa using h84)) g91|exact absurd (if_neg (show ¬ q.lb.isEmpty=true by simpa using h84)) g91)
    refine jq jrm ?_;refine jq jrm ?_;refine jq jrcb ?_;refine jq jrpT ?_;refine jq jrm ?_;refine jqsp 178 (fun g91_2=>?_) fun g91_2=>?_
    rotate_left
    ·exfalso;(first|exact absurd (bo1 (show q.lb.isEmpty=true by simpa using h84)) g91_2|exact absurd (bo2 (Bool.eq_false_iff.2 (show ¬ q.lb.isEmpty=true by simpa using h84))) g91_2)
    refine jq jrm ?_;refine jq jrm ?_;refine jq jrc ?_;refine jq jrpT ?_;refine jq jrm ?_;refine jN ?_
    refine jbn (jtn ?_)
    refine jjend ((q.tb,q.lb.tail,q.to,q.lo.tail)) ?_ (h5:=?_) (h7:=?_)
    ·show _∧_∧_∧_∧_∧_
     refine ⟨?_,?_,?_,?_,?_,?_⟩ <;> first|omega|exact bxPut_len (by first|omega|exact tail_len hb1)|exact tail_len hb1|exact tail_len ho1|(split <;> first|omega|exact bxPut_len (by first|omega|exact tail_len hb1))
    ·exact .cons (cB (by rw [if_pos (show q.lb.isEmpty=true by simpa using h84),if_pos (show q.lo.isEmpty=true by simpa using h88)];rfl)) .nil
    ·rw [ft35a (show q.lb.isEmpty=true by simpa using h84)]
     exact HEnt.refl _
   ·rintro ⟨tb,lb,to,lo⟩ hk
    refine jE (back35 hq tb to lb lo) ?_;refine jcr ?_;refine jq jrm ?_;refine jq jrn ?_;refine jq jrm ?_;refine jqsp 219 (fun g100=>?_) fun g100=>?_
    ·exfalso;exact absurd g100 (by decide)
    refine jq jrm ?_;refine jq jrm ?_;refine seq_ent bag_new ?_;refine seq_ent (bag_push 4 2 rfl rfl rfl) ?_;refine seq_ent (bag_push 4 0 rfl rfl rfl) ?_;refine seq_ent (pick_ent (H':=[bagE [boxO nx room (sw q.w tb to) (sw q.w lb lo),modO nv room (sw q.w tb to) (sw q.w lb lo)],boxO ny 3 (sw q.w to tb) (sw q.w lo lb),modO nw 3 (sw q.w to tb) (sw q.w lo lb)]) [4,1,3] (by decide) rfl) ?_
    refine jqm (jmcE 0 (same35_ac nx room nv room (sw q.w tb to) (sw q.w lb lo) (len35 hq hk).1 (by omega)) ?_)
    refine jq jrn ?_;refine jq jrpF ?_;refine jq jrm ?_;refine jqsp 225 (fun g100_2=>?_) fun g100_2=>?_
    ·exfalso;exact absurd g100_2 (by decide)
    refine jq jrm ?_;refine jq jrm ?_;refine seq_ent bag_new ?_;refine seq_ent (bag_push 3 2 rfl rfl rfl) ?_;refine seq_ent (bag_push 3 1 rfl rfl rfl) ?_;refine seq_ent (pick_ent (H':=[bagE [boxO nx room (sw q.w tb to) (sw q.w lb lo),modO nv room (sw q.w tb to) (sw q.w lb lo)],bagE [boxO ny 3 (sw q.w to tb) (sw q.w lo lb),modO nw 3 (sw q.w to tb) (sw q.w lo lb)]]) [0,3] (by decide) rfl) ?_
    refine jqm (jmcE 1 (same35_ac ny 3 nw 3 (sw q.w to tb) (sw q.w lo lb) (len35 hq hk).2 (by omega)) ?_)
    refine jq jrn ?_;refine jq jrpF ?_;refine jN ?_;refine jcc (fun h100=>?_) fun h100=>?_
    ·exfalso;exact absurd h100 (by decide)
    refine jS (jbn (jtn ?_))
    first
     |(refine jE (bag_pop 0 rfl) ?_;refine jE (bag_pop 0 rfl) ?_
       refine jE (pick_ent (H':=[bagE [boxO ny 3 (sw q.w to tb) (sw q.w lo lb),modO nw 3 (sw q.w to tb) (sw q.w lo lb)],boxO nx room (sw q.w tb to) (sw q.w lb lo),modO nv room (sw q.w tb to) (sw q.w lb lo)]) [1,2,3] (by decide) rfl) ?_;refine jE (bag_pop 0 rfl) ?_;refine jE (bag_pop 0 rfl) ?_
       refine jE (pick_ent (H':=[boxO nx room (sw q.w tb to) (sw q.w lb lo),boxO ny 3 (sw q.w to tb) (sw q.w lo lb),modO nv room (sw q.w tb to) (sw q.w lb lo),modO nw 3 (sw q.w to tb) (sw q.w lo lb)]) [1,3,2,4] (by decide) rfl) ?_)
     | skip
    refine jcg ?_;refine jq jra ?_;refine jq jrm ?_;refine jN ?_;refine jtn ?_
    refine jlend ((i+1,sw q.w tb to,sw q.w lb lo,sw q.w to tb,sw q.w lo lb)) ?_ ?_ (h7:=?_)
    ·exact keep35 hq hi2 hk
    ·show l.length-(i+1)<l.length-i;omega
    ·exact HEnt.refl _
end
section
variable {gs:List Nat} [OkG gs]
theorem postPlays_ac (room:Int) (l:List Ac35):ACp gs Tryd.prog 3 [.c (.int .i64 room),acsC l] (.c (.bool true)):=by
 by_cases h:1≤room∧room≤16
 ·obtain ⟨n,rfl⟩:∃ n:Nat,room=n:=⟨room.toNat,by omega⟩
  exact postGood_ac n l (by omega)
 ·exact postBad_ac room l h
end
end Am
end Go.Proofs.YtcjmppgkojogdaaDoor
namespace Go.Proofs.YtcjmppgkojogdaaDoor
set_option linter.unusedVariables false
open Go.RowKit Go.ChangeShapes

def isErr (x:String×DataW Unit):Bool:=match x.2 with
 | .iface nm (.ptr (.agg [.lit (.string _)])) => nm == "*errors.errorString"
 | _=>false
theorem isErr_out {x : String × DataW Unit} (h : isErr x = true) : ∃ text, x.2 = .iface "*errors.errorString" (.ptr (.agg [.lit (.string text)])) := by
 obtain ⟨n,d⟩:=x
 unfold isErr at h
 dsimp only at h ⊢
 split at h
 ·exact ⟨_,by rw [eq_of_beq h]⟩
 ·cases h

theorem laid_list {P:Program} {W:World} {nm:String} {ti tp te ts:TypeId} {ms:Array (String×TypeId)} {f:Field}
  (hi:P.underlying ti=some (.interface ms)) (hrow:∀ u,P.typeName? 3 u=some nm→u=tp)
  (hp:P.underlying tp=some (.pointer te)) (he:P.underlying te=some (.struct #[f])) (hft:f.type=ts) (hfo:f.offset=0) (hs:P.underlying ts=some .string) (hc:P.cellsOf te=1) (hcs:P.cellsOf ts=1) :
  ∀ (L:List (String×DataW Unit)) (ps:List MemPlace),DataW.LaidVars P W L ps →
   (∀ b off,MemPlace.cell b off ∈ ps→(∃ c t,W.heap[b]?=some (.cells c t (0,0)))∧∀ u v,W.cell? ⟨b,off,none⟩=some (.iface u v)→Value.okWide P W .any 0 u v)→ps.Nodup →
   (∀ x ∈ L,isErr x=true→(∃ text,x.2=.iface nm (.ptr (.agg [.lit (.string text)])))∧∀ g,P.globalNamed x.1=some g→(P.globals[g]?).map (·.type)=some ti) →
   ∃ al:List Addr,al.length=(L.filter isErr).length∧al.Nodup∧(∀ a ∈ al,a.spot=none∧MemPlace.cell a.block a.off ∈ ps) ∧
    ∀ (i:Nat) (x:String×DataW Unit) (a:Addr),(L.filter isErr)[i]?=some x→al[i]?=some a→∃ g,P.globalNamed x.1=some g∧W.cell? ⟨g,0,none⟩=some (.iface tp (.pointer (some a)))
 | [],ps,_,_,_,_=>⟨[],rfl,List.nodup_nil,by simp,by simp⟩
 |(n,d)::r,ps,hv,hrows,hnd,hL=>by
  obtain ⟨g,t,cs,fuel,p,q,hg,ht,hvar,hd,hrest,rfl⟩:=hv
  have hnq:q.Nodup:=List.Nodup.sublist (List.sublist_append_right _ _) hnd
  obtain ⟨al,h1,h2,h3,h4⟩:=laid_list hi hrow hp he hft hfo hs hc hcs r q hrest (fun b off hm=>hrows b off (List.mem_append_right _ hm)) hnq (fun x hx=>hL x (List.mem_cons_of_mem _ hx))
  by_cases hE:isErr (n,d)=true
  case neg =>
   have hE:isErr (n,d)=false:=by simpa using hE
   rw [List.filter_cons_of_neg (by simp [hE])]
   exact ⟨al,h1,h2,fun a ha=>⟨(h3 a ha).1,List.mem_append_right _ (h3 a ha).2⟩,h4⟩
  obtain ⟨⟨text,hx⟩,hty⟩:=hL (n,d) (List.mem_cons_self ..) hE
  rw [List.filter_cons_of_pos hE]
  simp only at hx
  subst hx
  obtain rfl:=Option.some.inj ((hty g hg).symm.trans ht)
  obtain ⟨l⟩:=cs
  have hcell0:∀ v,l=[v]→W.cell? ⟨g,0,none⟩=some v:=fun v e=>by
   subst e
   simpa using World.var?_cell hg hvar 0
  obtain ⟨a,s,rfl,ha,_,_,rfl⟩:=errorString_of_trod hi hrow hp he hft hfo hs hc hcs hd (fun u v e=>by
   simp only at e
   subst e
   exact (hrows g 0 (by simp [MemPlace.row])).2 u v (hcell0 _ rfl))
  have hsp:a.spot=none:=World.cell?_spot ha
  have hpl:MemPlace.cell a.block a.off ∈ MemPlace.row a 1:=by simp [MemPlace.row]
  refine ⟨a::al,by simp [h1],List.nodup_cons.2 ⟨fun hm=>?_,h2⟩,?_,?_⟩
  ·have hq:=(h3 a hm).2
   have:=(List.nodup_append.1 hnd).2.2 (MemPlace.cell a.block a.off) (List.mem_append_right _ hpl) _ hq
   exact this rfl
  ·intro b hb
   rcases List.mem_cons.1 hb with rfl|hb
   ·exact ⟨hsp,List.mem_append_left _ (List.mem_append_right _ hpl)⟩
   ·exact ⟨(h3 b hb).1,List.mem_append_right _ (h3 b hb).2⟩
  ·intro i x b hi' hb
   match i,hi',hb with
   | 0,hi',hb =>
    simp only [List.getElem?_cons_zero,Option.some.injEq] at hi' hb
    subst hi'
    subst hb
    exact ⟨g,hg,hcell0 _ rfl⟩
   | i+1,hi',hb=>exact h4 i x b (by simpa using hi') (by simpa using hb)

theorem starRow (u : TypeId) (h : Tryd.prog.typeName? 3 u = some "*errors.errorString") : u = 77 := by
 have e : "*errors.errorString" = "*" ++ "errors.errorString" := by decide +kernel
 exact typeName_ptr_named (nm := "errors.errorString") (by rw [← e]; kernel_rfl) (by kernel_rfl) (by decide) u (by rw [← e]; exact h)
theorem cellsErr:Tryd.prog.cellsOf 105=1:=by kernel_rfl
theorem cellsStr:Tryd.prog.cellsOf 9=1:=by kernel_rfl

theorem sent_of_laid {W:World} {L:List (String×DataW Unit)} {g0:List Nat} (h:laidMetH Tryd.prog L W) (h1:(L.all fun x=>x.2.handleName?.isNone)=true)
  (h3:((L.filter isErr).map fun x=>Tryd.prog.globalNamed x.1)=(errG g0).map some) (h4:((errG g0).map fun g=>(Tryd.prog.globals[g]?).map (·.type))=List.replicate (errG g0).length (some 27))
  (ht:tabA ∈ lst g0→tabB ∈ lst g0→Lib.Utf8Tabs tabA tabB W) (hAB:((lst g0).contains tabA)=((lst g0).contains tabB)):∃ al,SentL W g0 al:=by
 rw [MakeChecks.laidMetH_plain _ _ _ h1] at h
 obtain ⟨ps,hv,hnd,hrows⟩:=h
 have hlen:(L.filter isErr).length=(errG g0).length:=by simpa using congrArg List.length h3
 have hgl:∀ (i:Nat) (x:String×DataW Unit),(L.filter isErr)[i]?=some x→∃ g,(errG g0)[i]?=some g∧Tryd.prog.globalNamed x.1=some g:=by
  intro i x hx
  have:=congrArg (fun l=>l[i]?) h3
  simp only [List.getElem?_map,hx,Option.map_some] at this
  obtain ⟨g,hg,e⟩:=Option.map_eq_some_iff.1 this.symm
  exact ⟨g,hg,e.symm⟩
 obtain ⟨al,l1,l2,l3,l4⟩:=laid_list Tryd.underlying27 starRow Tryd.underlying77 Tryd.underlying105 rfl rfl Tryd.underlying9 cellsErr cellsStr L ps hv hrows hnd
  (fun x hx hE=>⟨isErr_out hE,fun g hg=>by
   obtain ⟨i,hi⟩:=List.mem_iff_getElem?.1 (List.mem_filter.2 ⟨hx,hE⟩)
   obtain ⟨g',hg',e⟩:=hgl i x hi
   obtain rfl:=Option.some.inj (e.symm.trans hg)
   have:=congrArg (fun l=>l[i]?) h4
   simp only [List.getElem?_map,hg',Option.map_some] at this
   have hlt:i<(errG g0).length:=(List.getElem?_eq_some_iff.1 hg').1
   rw [List.getElem?_replicate,if_pos hlt] at this
   exact Option.some.inj this⟩)
 have hvar:∀ i g,(errG g0)[i]?=some g→W.cell? ⟨g,0,none⟩=some (ev al (i+1)):=by
  intro i g hg
  have hlt:i<(errG g0).length:=(List.getElem?_eq_some_iff.1 hg).1
  obtain ⟨x,hx⟩:∃ x,(L.filter isErr)[i]?=some x:=⟨(L.filter isErr)[i],List.getElem?_eq_getElem (by omega)⟩
  obtain ⟨a,ha⟩:∃ a,al[i]?=some a:=⟨al[i],List.getElem?_eq_getElem (by omega)⟩
  obtain ⟨g',hg',e⟩:=hgl i x hx
  obtain rfl:=Option.some.inj (hg.symm.trans hg')
  obtain ⟨g2,e2,hc⟩:=l4 i x a hx ha
  obtain rfl:=Option.some.inj (e.symm.trans e2)
  rw [hc]
  simp [ev,ha]
 refine ⟨al,by omega,fun i j g g' hi _ hj _ e=>(List.getElem?_inj (by have:=(List.getElem?_eq_some_iff.1 hi).1;omega) l2).1 e,fun i g hi _=>hvar i g hi,fun a ha=>(hrows a.block a.off (l3 a ha).2).1,ht,fun g hg=>?_⟩
 by_cases hT:(Nat.beq g tabA || Nat.beq g tabB)=true
 ·have hc:tabA ∈ lst g0∧tabB ∈ lst g0:=by
   rcases Bool.or_eq_true_iff.1 hT with e|e
   ·have:=Nat.eq_of_beq_eq_true e
    subst this
    have h5:(lst g0).contains tabA=true:=List.contains_iff_mem.2 hg
    exact ⟨hg,List.contains_iff_mem.1 (hAB ▸ h5)⟩
   ·have:=Nat.eq_of_beq_eq_true e
    subst this
    have h5:(lst g0).contains tabB=true:=List.contains_iff_mem.2 hg
    exact ⟨List.contains_iff_mem.1 (hAB.symm ▸ h5),hg⟩
  have hU:=ht hc.1 hc.2
  rcases Bool.or_eq_true_iff.1 hT with e|e
  ·have:=Nat.eq_of_beq_eq_true e
   subst this
   exact World.block_lt_of_cell? W _ (hU.1 0 (by decide))
  ·have:=Nat.eq_of_beq_eq_true e
   subst this
   exact World.block_lt_of_cell? W _ (hU.2 0 (by decide)).1
 ·have hm:g ∈ errG g0:=List.mem_filter.2 ⟨(lst_mem.1 hg).1,by
   cases hb:(Nat.beq g tabA || Nat.beq g tabB) with
   | true=>exact absurd hb hT
   | false=>rfl⟩
  obtain ⟨i,hi⟩:=List.mem_iff_getElem?.1 hm
  exact World.block_lt_of_cell? W _ (hvar i g hi)
end Go.Proofs.YtcjmppgkojogdaaDoor
namespace Go.Proofs.YtcjmppgkojogdaaDoor
set_option linter.unusedVariables false
namespace Am
open Go.RowKit
section
open Go.RowKit Go.ChangeShapes
def Opens (P:Program) (t:TypeId) (k:Nat) (D:Type) (φ:D→Prop) (E:D→Nat→CV):Prop :=
 ∀ (H:Type) (enc:TypeId×Value→H) (W:World) (fuel:Nat) (cs:List Value) (y:DataW H×List MemPlace),DataW.trod enc P W 0 (fun _=>true) true fuel t cs=some y →
  cs.length=k∧∃ x:D,φ x∧∀ al j,j<k→RepC al (fun b=>b<W.heap.size) W (E x j) (cs.getD j undef)
section
variable {P:Program} {t:TypeId}
theorem one_cell {al:List Addr} {W:World} {St:Nat→Prop} {c:Nat→CV} {v:Value} (h:RepC al St W (c 0) v):∀ j,j<1→RepC al St W (c j) ([v].getD j undef):=fun j hj=>by
 obtain rfl:j=0:=by omega
 exact h
theorem opens_i64 (hu:P.underlying t=some (.int .i64)):Opens P t 1 Int (fun z=>-9223372036854775808≤z∧z≤9223372036854775807) (fun z _=>.c (.int .i64 z)):=fun H enc W fuel cs y h=>by
 obtain ⟨n,rfl,_,hw⟩:=DataW.trod_int hu h
 exact ⟨rfl,n,bounds_i64 hw,fun al=>one_cell rfl⟩
theorem opens_bool (hu:P.underlying t=some .bool):Opens P t 1 Bool (fun _=>True) (fun z _=>.c (.bool z)):=fun H enc W fuel cs y h=>by
 obtain ⟨n,rfl,_⟩:=DataW.trod_bool hu h
 exact ⟨rfl,n,trivial,fun al=>one_cell rfl⟩
theorem opens_slice {e:TypeId} {k:Nat} {D:Type} {φ:D→Prop} {E:D→Nat→CV} (d0:D) (ho:Opens P e k D φ E) (hu:P.underlying t=some (.slice e)) (hk:P.cellsOf e=k) (hk0:0<k) :
  Opens P t 1 (List D) (fun l=>l.length≤maxLen∧∀ x ∈ l,φ x) (fun l _=>.rs k l.length fun i j=>E (l.getD i d0) j):=fun H enc W fuel cs y h=>by
 rcases DataW.trod_slice hu h with ⟨rfl,_⟩|⟨a,len,cap,elems,rest,n,_,rfl,_,_,hle,hm,hl,hel,_⟩
 ·exact ⟨rfl,[],⟨by simp,by simp⟩,fun al=>one_cell ⟨none,0,rfl,Nat.le_refl _,by decide,fun _=>rfl,fun _ h=>by cases h⟩⟩
 ·refine ⟨rfl,?_⟩
  subst hk
  have key:∀ i,∃ x:D,i<len→φ x∧∀ al j,j<P.cellsOf e→∃ v,W.cell? (a.add (i * P.cellsOf e+j))=some v∧RepC al (fun b=>b<W.heap.size) W (E x j) v:=fun i=>by
   by_cases hi:i<len
   ·have h1:=hel i hi
    rw [List.getElem?_eq_getElem (by omega)] at h1
    obtain ⟨cs,h2,h3⟩:=Option.bind_eq_some_iff.1 h1
    obtain ⟨_,h4,h5⟩:=World.cells?_some h2
    obtain ⟨_,x,hx,hr⟩:=ho H enc W n cs _ h3
    refine ⟨x,fun _=>⟨hx,fun al j hj=>⟨cs.getD j undef,?_,hr al j hj⟩⟩⟩
    have:=h5 j hj
    rw [Addr.add_add] at this
    rw [this]
    simp [h4,hj]
   ·exact ⟨d0,fun h=>absurd h hi⟩
  obtain ⟨F,hF⟩:∃ F:Nat→D,∀ i,i<len→φ (F i)∧∀ al j,j<P.cellsOf e→∃ v,W.cell? (a.add (i * P.cellsOf e+j))=some v∧RepC al (fun b=>b<W.heap.size) W (E (F i) j) v :=
   ⟨fun i=>(key i).choose,fun i hi=>(key i).choose_spec hi⟩
  have hm':cap≤9223372036854775807:=by unfold maxLen at hm;omega
  refine ⟨(List.range len).map F,⟨by simp;omega,by simp only [List.mem_map,List.mem_range];rintro x ⟨i,hi,rfl⟩;exact (hF i hi).1⟩,fun al=>one_cell ?_⟩
  refine ⟨some a,cap,by simp,by simpa using hle,hm',by simp,fun b hb hn=>?_⟩
  cases hb
  simp at hn
  obtain ⟨v0,hv0,_⟩:=(hF 0 hn).2 al 0 hk0
  have hsp:a.spot=none:=by
   have:=World.cell?_spot hv0
   obtain ⟨b,o,sp⟩:=a
   simpa [Addr.add] using this
  refine ⟨hsp,?_,fun i j hi hj=>?_⟩
  ·have:=World.block_lt_of_cell? W _ hv0
   obtain ⟨b,o,sp⟩:=a
   simpa [Addr.add] using this
  ·simp at hi
   obtain ⟨v,hv,hr⟩:=(hF i hi).2 al j hj
   refine ⟨v,?_,by simpa [List.getD,hi] using hr⟩
   obtain ⟨b,o,sp⟩:=a
   simp only at hsp
   subst hsp
   rwa [Addr.add_lit] at hv
def OpensF (P:Program) (fs:List Field) (D:Type) (φ:D→Prop) (E:D→Nat→CV) (C:Nat→Bool):Prop :=
 ∀ (H:Type) (enc:TypeId×Value→H) (W:World) (cs:List Value),(∀ f ∈ fs,∃ n y,DataW.trod enc P W 0 (fun _=>true) true n f.type ((cs.drop f.offset).take (P.cellsOf f.type))=some y) →
  ∃ x:D,φ x∧∀ al j,C j=true→RepC al (fun b=>b<W.heap.size) W (E x j) (cs.getD j undef)
theorem opensF_nil:OpensF P [] Unit (fun _=>True) (fun _ _=>.top) (fun _=>false):=fun H enc W cs _=>⟨(),trivial,fun al j h=>by cases h⟩
theorem opensF_cons {f:Field} {fs:List Field} {k:Nat} {D1 D2:Type} {φ1:D1→Prop} {φ2:D2→Prop} {E1:D1→Nat→CV} {E2:D2→Nat→CV} {C2:Nat→Bool} (h1:Opens P f.type k D1 φ1 E1) (h2:OpensF P fs D2 φ2 E2 C2) :
  OpensF P (f::fs) (D1×D2) (fun x=>φ1 x.1∧φ2 x.2) (fun x j=>match Nat.ble f.offset j && Nat.blt j (f.offset+k) with|true=>E1 x.1 (j-f.offset)|false=>E2 x.2 j) (fun j=>(Nat.ble f.offset j && Nat.blt j (f.offset+k)) || C2 j):=fun H enc W cs h=>by
 obtain ⟨n,y,hy⟩:=h f (List.mem_cons_self ..)
 obtain ⟨hl,x1,p1,r1⟩:=h1 H enc W n _ y hy
 obtain ⟨x2,p2,r2⟩:=h2 H enc W cs fun g hg=>h g (List.mem_cons_of_mem _ hg)
 refine ⟨(x1,x2),⟨p1,p2⟩,fun al j hj=>?_⟩
 cases hb:Nat.ble f.offset j && Nat.blt j (f.offset+k) with
 | true =>
  have hb0:=hb
  simp only [Bool.and_eq_true] at hb
  have b1:f.offset≤j:=Nat.le_of_ble_eq_true hb.1
  have b2:j<f.offset+k:=Nat.le_of_ble_eq_true hb.2
  have:=r1 al (j-f.offset) (by omega)
  simp only [List.length_take,List.length_drop] at hl
  rw [List.getD_eq_getElem?_getD,List.getElem?_take,if_pos (by omega),List.getElem?_drop,show f.offset+(j-f.offset)=j by omega,← List.getD_eq_getElem?_getD] at this
  simp only [hb0]
  exact this
 | false =>
  simp only [hb,Bool.false_or] at hj
  simp only [hb]
  exact r2 al j hj
theorem opens_struct {fs:Array Field} {n:Nat} {D:Type} {φ:D→Prop} {E:D→Nat→CV} {C:Nat→Bool} (hu:P.underlying t=some (.struct fs)) (hn:P.cellsOf t=n) (ho:OpensF P fs.toList D φ E C) (hC:(List.range n).all C=true):Opens P t n D φ E:=fun H enc W fuel cs y h=>by
 obtain ⟨xs,m,_,_,hl,hlen,hf⟩:=DataW.trod_struct hu h
 obtain ⟨x,hx,hr⟩:=ho H enc W cs fun f hf'=>by
  obtain ⟨i,hi⟩:=List.mem_iff_getElem?.1 hf'
  rw [Array.getElem?_toList] at hi
  have:=hf i f hi
  have hlt:i<xs.length:=by rw [hlen];exact (Array.getElem?_eq_some_iff.1 hi).1
  rw [List.getElem?_eq_getElem hlt] at this
  exact ⟨m,_,this⟩
 exact ⟨hl.trans hn,x,hx,fun al j hj=>hr al j (List.all_eq_true.1 hC j (List.mem_range.2 hj))⟩
theorem arg_one {D:Type} {φ:D→Prop} {E:D→Nat→CV} (ho:Opens P t 1 D φ E) {H:Type} {enc:TypeId×Value→H} {W:World} {v:Value} {d:DataW H} {p:List MemPlace} (hv:v.cells=#[v]) (h:DataW.Trod enc P W 0 (fun _=>true) true t v d p) :
  ∃ x:D,φ x∧∀ al,RepC al (fun b=>b<W.heap.size) W (E x 0) v:=by
 obtain ⟨fuel,hf⟩:=h
 obtain ⟨_,x,hx,hr⟩:=ho H enc W fuel _ _ hf
 refine ⟨x,hx,fun al=>?_⟩
 have:=hr al 0 (by decide)
 rw [hv] at this
 exact this
end
end
section
open Go.RowKit Go.ChangeShapes
theorem opens_strL {P:Program} {t:TypeId} (hu:P.underlying t=some .string):Opens P t 1 (List UInt8) (fun s=>s.length≤maxLen) (fun z _=>strC z):=fun H enc W fuel cs y h=>by
 obtain ⟨n,rfl,_,hs⟩:=DataW.trod_string hu h
 obtain ⟨l,rfl⟩:=ba_list n
 exact ⟨rfl,l,hs,fun al=>one_cell rfl⟩
theorem map_getD {α β:Type} (f:α→β) (l:List α) {i:Nat} (d0:α) (d1:β) (h:i<l.length):(l.map f).getD i d1=f (l.getD i d0):=by simp [List.getD,h]
end
end Am
end Go.Proofs.YtcjmppgkojogdaaDoor
