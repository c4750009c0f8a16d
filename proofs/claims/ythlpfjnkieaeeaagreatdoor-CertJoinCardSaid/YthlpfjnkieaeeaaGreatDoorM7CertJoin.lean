/- What the law leans on, part 7: W05c, W05d, W05e, Laid, Tab, V8, P07e, W07p, P07c, W07, L07, P09n, W07l, W07q, W08m, W08n, W08v, W08w, W08x, P08b, W08a, W08b, W08c, W08d, W08e, W08f, SsJ, W05f, W05g, W05h, W06c, P06c, W06d, W06e, W08g -/
import Derived.Test.YthlpfjnkieaeeaaGreatDoorM6CertJoin
import Derived.Test.YthlpfjnkieaeeaaGreatDoorRows
import Derived.LaidLaws
import Derived.MakeChecks
import Derived.Lib.LaidU8T
import Derived.Shelf.Unicode.ValidAny

set_option maxRecDepth 100000
namespace Go.Proofs.YthlpfjnkieaeeaaGreatDoor
set_option linter.unusedVariables false
namespace Am
open Go.RowKit
section
variable {gs:List Nat} [Ok2 gs]

theorem CEnt.nilO {i k:Nat}:CEnt (.c (.slice none 0 0)) (.os i none 0 0 k):=fun al St w v h=>⟨rfl,h⟩
theorem split_len (c:UInt8):∀ l:List UInt8,(splitC c l).length≤l.length+1
 | []=>by simp [splitC]
 | x::l=>by
  have ih:=split_len c l
  rw [splitC]
  split
  ·simp;omega
  ·have h:∀ ls:List (List UInt8),ls≠[]→(consHead x ls).length=ls.length:=fun ls h=>by cases ls <;> simp_all [consHead]
   rw [h _ (splitC_ne c l)]
   simp;omega
theorem part_len {c:UInt8}:∀ {l p:List UInt8},p ∈ splitC c l→p.length≤l.length
 | [],p,h=>by simp [splitC] at h;simp [h]
 | x::l,p,h=>by
  rw [splitC] at h
  split at h
  ·rcases List.mem_cons.1 h with rfl|h
   ·simp
   ·have:=part_len h;simp;omega
  ·cases hs:splitC c l with
   | nil=>exact absurd hs (splitC_ne c l)
   | cons q r =>
    rw [hs,consHead] at h
    rcases List.mem_cons.1 h with rfl|h
    ·have:=part_len (c:=c) (l:=l) (p:=q) (by rw [hs];exact List.mem_cons_self ..)
     simp;omega
    ·have:=part_len (c:=c) (l:=l) (p:=p) (by rw [hs];exact List.mem_cons_of_mem _ h)
     simp;omega
theorem take_get {α:Type} {l:List α} {k:Nat} (d:α) (h:k<l.length):l.take (k+1)=l.take k++[l.getD k d]:=by
 rw [List.take_succ_eq_append_getElem h]
 simp [List.getD,h]
theorem getD_mem' {α:Type} {l:List α} {k:Nat} (d:α) (h:k<l.length):l.getD k d ∈ l:=by
 simp [List.getD,h]
theorem parse_bad {s:List UInt8} (h:(splitC 46 s).all okP=false):(parseM s).1=[]∧(parseM s).2=4:=by
 unfold parseM;rw [if_pos h];exact ⟨rfl,rfl⟩
theorem parse_wrong {s:List UInt8} (h:(splitC 46 s).all okP=true) (h2:rightA ((splitC 46 s).map valP)=false):(parseM s).1=[]∧(parseM s).2=1:=by
 unfold parseM;rw [if_neg (by simp [h]),if_pos h2];exact ⟨rfl,rfl⟩
theorem parse_good {s:List UInt8} (h:(splitC 46 s).all okP=true) (h2:rightA ((splitC 46 s).map valP)=true):(parseM s).1=(splitC 46 s).map valP∧(parseM s).2=0:=by
 unfold parseM;rw [if_neg (by simp [h]),if_neg (by simp [h2])];exact ⟨rfl,rfl⟩
theorem all_false {α:Type} {p:α→Bool} {l:List α} {k:Nat} (d:α) (h:k<l.length) (hp:p (l.getD k d)=false):l.all p=false:=by
 cases e:l.all p with
 | false=>rfl
 | true =>
  have:=List.all_eq_true.1 e _ (getD_mem' d h)
  rw [hp] at this;cases this
set_option maxHeartbeats 1000000 in
theorem oparse_ac (s:List UInt8) (hs:s.length≤1000000000):ACp gs Tryz.prog 253 [strC s] (.tup 2 (fl [isC (parseM s).1,.err (parseM s).2])):=by
 have hpl:=split_len 46 s
 refine ac_of 33 Tryz.func253 rfl rfl rfl (fun al w0 F0 St0=>?_)
 refine jcr ?_
 refine jqe (jeal (n:=1) zr137 rfl fun p1=>?_)
 refine jqe (jeal (n:=1) zr25 rfl fun p2=>?_)
 refine jU 65 ?_
 refine jqe (jeal (n:=1) zr137 rfl fun p3=>?_)
 refine jU 1675 ?_
 refine jqe (jecS (splitSeq_ac s 46) ?_)
 rintro _ _ ⟨gS,rfl,rfl⟩
 refine jU 205 ?_;refine jE (blk_ent 0 (m:=1) (F:=fun _=>.c (.slice none 0 0)) rfl (Nat.le_refl _) (fun _=>rfl) (fun j hj=>by obtain rfl:j=0:=(by omega);exact cZ)) ?_;refine jE (blk_ent 1 (m:=1) (F:=fun _=>.c .nilIface) rfl (Nat.le_refl _) (fun _=>rfl) (fun j hj=>by obtain rfl:j=0:=(by omega);exact cZ)) ?_;refine jE (blk_ent 2 (m:=1) (F:=fun _=>.os 3 none 0 0 1) rfl (Nat.le_refl _) (fun _=>rfl) (fun j hj=>by obtain rfl:j=0:=(by omega);exact CEnt.nilO)) ?_;refine jE (ent_none (inF [])) ?_;refine code_range (π:=List Int×Option Nat) (q:=List Int×Option Nat) ((splitC 46 s).length) (fun k=>[strC ((splitC 46 s).getD k [])]) ([(gS,.blk 1 (fun _=>strC s))]) (fun (X,ga)=>[(p1,.blk 1 (fun _=>.c (.slice none 0 0))),(p2,.blk 1 (fun _=>.c .nilIface)),(p3,.blk 1 (fun _=>.os 3 ga 0 X.length 1)),(ga,.blk X.length (inF X))]) (fun k (X,ga)=>X=((splitC 46 s).take k).map valP∧((splitC 46 s).take k).all okP=true) (fun (X,ga)=>[(p1,.blk 1 (fun _=>.c (.slice none 0 0))),(p2,.blk 1 (fun _=>.err 4)),(p3,.blk 1 (fun _=>.os 3 ga 0 X.length 1)),(ga,.blk X.length (inF X))]) (fun c _=>c=.ret∧(splitC 46 s).all okP=false) (([],none)) [3,0,1,2,4] rfl rfl (by kernel_rfl) (seq_iter s 46 gS (by omega)) (⟨rfl,rfl⟩) (by decide) rfl (fun _ _=>rfl) rfl ?_ ?_ ?_
 ·intro k hk l al2 w2 F2 S2 R0 R1
  rintro ⟨X,ga⟩ ⟨hX,hall⟩
  have hXl:X.length≤k:=by rw [hX,List.length_map,List.length_take];omega
  have hpp:=part_len (getD_mem' (l:=splitC 46 s) [] hk)
  refine jU 51200 ?_;refine assign_norm ?_;refine jU 1620 ?_
  refine jqe (jecP (wfig_ac ((splitC 46 s).getD k [])) ?_)
  refine jU 15000001675119009001 ?_;refine jqsp 18 (fun g34=>?_) fun g34=>?_
  ·refine jU 7900058000444 ?_;refine jcdZ (.rd 0 (.one 1 (.one 2 .done))) ?_;refine jzq (jrde 3) ?_
   refine jzm (jmst 1 ?_)
   refine jzm (jmst 1 ?_)
   refine jU 5000300070008700000 ?_;refine round_ret ((X,ga)) ?_ rfl ?_
   ·exact ⟨rfl,all_false [] hk (by unfold okP;(simp_all;done))⟩
   ·exact .blk rfl (fun j hj=>by obtain rfl:j=0:=(by omega);exact cZ) (.blk rfl (fun j hj=>by obtain rfl:j=0:=(by omega);exact cZ) (.same (.same (.same .nil))))
  refine jU 55002400001 ?_;refine jcc (fun h34=>?_) fun h34=>?_
  ·refine jcs ?_;refine jcdZ (.rd 0 (.one 1 (.one 2 .done))) ?_;refine jzq (jrde 3) ?_
   refine jzm (jmst 1 ?_)
   refine jzm (jmst 1 ?_)
   refine jU 5000300070008700000 ?_;refine round_ret ((X,ga)) ?_ rfl ?_
   ·exact ⟨rfl,all_false [] hk (by unfold okP;(simp_all;omega))⟩
   ·exact .blk rfl (fun j hj=>by obtain rfl:j=0:=(by omega);exact cZ) (.blk rfl (fun j hj=>by obtain rfl:j=0:=(by omega);exact cZ) (.same (.same (.same .nil))))
  refine jU 150200810 ?_
  refine jqe (jebl 1 1 zr3 fun p4=>?_)
  refine jqm (m_appendC rowC_in (l2:=[valP ((splitC 46 s).getD k [])]) rfl rfl rfl rfl (by exact Nat.le_of_eq (Nat.mul_one _)) (fun _ _=>cZ) (src_os rfl (.inl rfl) (by decide)) rfl (hh_ints (.cons (cI (rfl)) .nil)) Tryz.underlying137 nu137 sz3 zr3 by3 rfl (by (simp;omega)) (by (simp;omega)) (leaf_flk rfl rfl) rfl rfl (Nat.mul_one _) (fun p5=>?_))
  refine jqm (jmst 1 ?_)
  refine jU 4005 ?_;refine round_norm ((X++[valP ((splitC 46 s).getD k [])],p5)) ?_ rfl ?_
  ·exact ⟨by rw [hX,take_get [] hk,List.map_append];rfl,by rw [take_get [] hk,List.all_append,hall];simp only [List.all_cons,List.all_nil,Bool.and_true,Bool.true_and,okP];(simp_all;omega)⟩
  ·exact .same (.same (.blk rfl (fun j hj=>by obtain rfl:j=0:=(by omega);exact cZ) (.same (.same .nil))))
 ·rintro ⟨X,ga⟩ ⟨hX,hall⟩
  rw [List.take_length] at hX hall
  refine jU 50678400 ?_;refine seq_ent (freeze 3 rfl) ?_;refine seq_ent (thawIL 28 X rfl rfl rfl (Nat.ble_eq_true_of_le (Nat.le_refl _)) (fun j hj=>cZ)) ?_
  refine jqe (jecP (oright_ac X) ?_)
  refine jU 530 ?_;refine jcc (fun h39=>?_) fun h39=>?_
  ·refine jcs ?_;refine jcdZ (.rd 0 (.one 1 (.one 2 .done))) ?_;refine jzq (jrde 0) ?_
   refine jzm (jmst 1 ?_)
   refine jzm (jmst 1 ?_)
   refine jU 8700000 ?_
   refine jR (jtr (jrt (hres:=res_2 rfl javc javc) (hv:=?_)))
   have hb:=parse_wrong hall (by rw [← hX];simpa using h39)
   exact cT (CEnt.nilS' (by rw [hb.1];rfl)) (CEnt.errN hb.2)
  refine jU 506810 ?_;refine seq_ent (thawIL 32 X rfl rfl rfl (Nat.ble_eq_true_of_le (Nat.le_refl _)) (fun j hj=>cZ)) ?_
  refine jqm (jmst 1 ?_)
  refine jqm (jmst 1 ?_)
  refine jU 5 ?_
  refine jR (jrt (hres:=res_2 rfl javc javc) (hv:=?_))
  have hb:=parse_good hall (by rw [← hX];simpa using h39)
  exact cT (show CEnt (isC X) _ from CEnt.of_eq (by rw [hb.1,hX])) (CEnt.nilE hb.2)
 ·rintro _ ⟨X,ga⟩ ⟨rfl,hbad⟩
  refine .inl ⟨rfl,?_⟩
  refine jbr (jtr (jrt (hres:=res_2 rfl javc javc) (hv:=?_)))
  have hb:=parse_bad hbad
  exact cT (CEnt.nilS' (by rw [hb.1];rfl)) (CEnt.errN hb.2)
end
section
variable {gs:List Nat} [Ok2 gs]

def cmpI (a b:Int):Int:=if a<b then -1 else if b<a then 1 else 0
def underM (s t:List UInt8):Bool:=decide ((parseM s).2=0) && decide ((parseM t).2=0) && underA (parseM s).1 (parseM t).1
end
section
variable {gs:List Nat} [Ok2 gs]

theorem parse_ok {s:List UInt8} (h:(parseM s).2=0):rightA (parseM s).1=true:=(parse_right (s:=s) (l:=(parseM s).1) (by rw [← h])).1
theorem sep_take {l:List Int} {i:Nat} (h:i<(l.drop 2).length):(((l.drop 2).take (i+1)).map fun n=>sepL n.toNat).flatten=(((l.drop 2).take i).map fun n=>sepL n.toNat).flatten++sepL (l.getD (2+i) 0).toNat:=by
 rw [take_get 0 h,List.map_append,List.flatten_append]
 simp [List.getD]
theorem sep_flat_len {l:List Int} (h:∀ n ∈ l,0≤n∧n≤2147483647):((l.map fun n=>sepL n.toNat).flatten).length≤5 * l.length:=by
 induction l with
 | nil=>simp
 | cons a l ih =>
  have h1:=sepL_len (n:=a.toNat) (by have:=h a (by simp);omega)
  have h2:=ih fun n hn=>h n (by simp [hn])
  simp at h2 ⊢
  omega
set_option maxHeartbeats 1000000 in
theorem oput_ac (s:List UInt8) (hs:s.length≤1000000000):ACp gs Tryz.prog 220 [strC s] (.tup 2 (fl [bsC (putM s),.err (parseM s).2])):=by
 refine ac_of 39 Tryz.func220 rfl rfl rfl (fun al w0 F0 St0=>?_)
 refine jU 165116 ?_
 refine jqe (jecP (oparse_ac s hs) ?_)
 refine jU 55000001675119009001 ?_;refine jcc (fun h70=>?_) fun h70=>?_
 ·refine jU 51116 ?_
  refine jR (jtr (jrt (hv:=cT (CEnt.nilS' (by unfold putM;rw [if_neg (by omega)];rfl)) cZ)))
 refine jU 7810 ?_
 obtain ⟨hl2,hl16,hall,ha,hb⟩:=right_at (parse_ok (s:=s) (by omega))
 obtain ⟨l,hl⟩:∃ l,(parseM s).1=l:=⟨_,rfl⟩
 rw [hl] at hl2 hl16 hall ha hb ⊢
 have h0:=hall _ (getD_mem' (l:=l) (k:=0) 0 (by omega))
 have h1:=hall _ (getD_mem' (l:=l) (k:=1) 0 (by omega))
 refine jcd (.rd 0 (.rd 1 (.rd 2 (.rd 3 (.rd 4 (.rd 5 (.rd 6 (.rd 7 (.one 8 (.rd 9 .done)))))))))) ?_;refine jU 70 ?_;refine jyq (jri (i:=0)) ?_;refine jU 703000070000 ?_;refine jyq (jri (i:=1)) ?_;refine jU 3000070000 ?_
 refine jye (jecO (septets_ac (40 * l.getD 0 0+l.getD 1 0).toNat (by omega)) (fun p1=>?_) (ho:=rfl) (he:=(.cons (se rfl (cI (by omega))) .nil)))
 refine jU 16788070 ?_;refine jq (jrsr (hl:=(bd_some rfl (show (2:Int)=((2:Nat):Int) from rfl))) (hu:=(bd_none _ _))) ?_;refine jU 20513 ?_;refine l_loop (α:=Nat×List UInt8×Option Nat) [6,8,29,30,31,32,33,34,35,36,37] (fun (i,o,g)=>[(6,.os 0 g 0 o.length 1),(29,.c (.int .i64 (i:Nat)))]) (fun (i,o,g)=>[(g,.blk o.length (byF o))]) (fun (i,o,g)=>i≤l.length-2∧o=sepL (40 * l.getD 0 0+l.getD 1 0).toNat++(((l.drop 2).take i).map fun n=>sepL n.toNat).flatten) (fun (i,o,g)=>l.length-i) ((0,sepL (40 * l.getD 0 0+l.getD 1 0).toNat,p1)) ?_ (fun _=>rfl) ?_ ?_ ?_
 ·exact ⟨Nat.zero_le _,by simp⟩
 ·exact .cons cZ (.cons cZ .nil)
 ·exact .same .nil
 ·rintro ⟨i,o,g⟩ ⟨(hi:i≤l.length-2),ho⟩
  have hol:o.length≤5+5 * i:=by
   rw [ho,List.length_append]
   have e1:=sepL_len (n:=(40 * l.getD 0 0+l.getD 1 0).toNat) (by omega)
   have e2:=sep_flat_len (l:=(l.drop 2).take i) (fun n hn=>hall n (List.mem_of_mem_drop (List.mem_of_mem_take hn)))
   rw [List.length_take,List.length_drop] at e2
   omega
  refine jU 7526 ?_;refine jcc (fun h74=>?_) fun h74=>?_
  rotate_left
  ·refine jU 5111684000200020006000 ?_;refine jE (freeze 0 rfl) ?_;refine jE (thawB 2 (o) rfl rfl (by rfl) rfl) ?_
   refine jR (jrt (hv:=?_))
   refine cT (CEnt.bs ?_) (CEnt.nilE (by omega))
   unfold putM
   rw [if_pos (by omega),hl,ho,List.take_of_length_le (by rw [List.length_drop];omega)]
   rfl
  refine jU 51607006207810 ?_
  have h3:=hall _ (getD_mem' (l:=l) (k:=2+i) 0 (by omega))
  have h4:=sepL_len (n:=(l.getD (2+i) 0).toNat) (by omega)
  refine jU 11200 ?_
  refine jqe (jecO (septets_ac (l.getD (2+i) 0).toNat (by omega)) (fun p2=>?_) (ho:=rfl) (he:=(.cons (se rfl (cI (by omega))) .nil)))
  refine jqm (m_appendB rfl rfl rfl (Nat.le_refl _) (fun _ _=>cZ) (src_os rfl (.inl rfl) (by omega)) rfl (fun j hj=>by rw [Nat.zero_add];exact cZ) Tryz.underlying22 nu22 sz5 zr5 by5 rfl (by omega) (fun j hj=>rfl) rfl rfl (fun p3=>?_))
  refine jU 8519200840051 ?_
  refine jlend ((i+1,o++sepL (l.getD (2+i) 0).toNat,p3)) ?_ ?_ (h5:=?_) (h7:=?_)
  ·exact ⟨by omega,by rw [ho,sep_take (by rw [List.length_drop];omega),List.append_assoc]⟩
  ·show l.length-(i+1)<l.length-i;omega
  ·exact .cons cZ (.cons (cI (by omega)) .nil)
  ·exact .same .nil
theorem put_len (s:List UInt8):(putM s).length≤100:=by
 unfold putM
 split
 ·rename_i h
  obtain ⟨hl2,hl16,hall,ha,hb⟩:=right_at (parse_ok h)
  unfold putA
  have h0:=hall _ (getD_mem' (l:=(parseM s).1) (k:=0) 0 (by omega))
  have h1:=hall _ (getD_mem' (l:=(parseM s).1) (k:=1) 0 (by omega))
  have e1:=sepL_len (n:=(40 * (parseM s).1.getD 0 0+(parseM s).1.getD 1 0).toNat) (by omega)
  have e2:=sep_flat_len (l:=(parseM s).1.drop 2) (fun n hn=>hall n (List.mem_of_mem_drop hn))
  rw [List.length_drop] at e2
  rw [List.length_append]
  omega
 ·simp
end
end Am
end Go.Proofs.YthlpfjnkieaeeaaGreatDoor
namespace Go.Proofs.YthlpfjnkieaeeaaGreatDoor
set_option linter.unusedVariables false
open Go.RowKit Go.ChangeShapes

def isErr (x:String×DataW Unit):Bool:=match x.2 with
 | .iface nm (.ptr (.agg [.lit (.string _)])) => nm == "*errors.errorString"
 | _=>false
theorem isErr_out {x : String × DataW Unit} (h : isErr x = true) : ∃ text, x.2 = .iface "*errors.errorString" (.ptr (.agg [.lit (.string text)])) := by
 obtain ⟨n,d⟩:=x
 unfold isErr at h
 dsimp only at h ⊢
 split at h
 ·exact ⟨_,by rw [eq_of_beq h]⟩
 ·cases h

theorem laid_list {P:Program} {W:World} {nm:String} {ti tp te ts:TypeId} {ms:Array (String×TypeId)} {f:Field}
  (hi:P.underlying ti=some (.interface ms)) (hrow:∀ u,P.typeName? 3 u=some nm→u=tp)
  (hp:P.underlying tp=some (.pointer te)) (he:P.underlying te=some (.struct #[f])) (hft:f.type=ts) (hfo:f.offset=0) (hs:P.underlying ts=some .string) (hc:P.cellsOf te=1) (hcs:P.cellsOf ts=1) :
  ∀ (L:List (String×DataW Unit)) (ps:List MemPlace),DataW.LaidVars P W L ps →
   (∀ b off,MemPlace.cell b off ∈ ps→(∃ c t,W.heap[b]?=some (.cells c t (0,0)))∧∀ u v,W.cell? ⟨b,off,none⟩=some (.iface u v)→Value.okWide P W .any 0 u v)→ps.Nodup →
   (∀ x ∈ L,isErr x=true→(∃ text,x.2=.iface nm (.ptr (.agg [.lit (.string text)])))∧∀ g,P.globalNamed x.1=some g→(P.globals[g]?).map (·.type)=some ti) →
   ∃ al:List Addr,al.length=(L.filter isErr).length∧al.Nodup∧(∀ a ∈ al,a.spot=none∧MemPlace.cell a.block a.off ∈ ps) ∧
    ∀ (i:Nat) (x:String×DataW Unit) (a:Addr),(L.filter isErr)[i]?=some x→al[i]?=some a→∃ g,P.globalNamed x.1=some g∧W.cell? ⟨g,0,none⟩=some (.iface tp (.pointer (some a)))
 | [],ps,_,_,_,_=>⟨[],rfl,List.nodup_nil,by simp,by simp⟩
 |(n,d)::r,ps,hv,hrows,hnd,hL=>by
  obtain ⟨g,t,cs,fuel,p,q,hg,ht,hvar,hd,hrest,rfl⟩:=hv
  have hnq:q.Nodup:=List.Nodup.sublist (List.sublist_append_right _ _) hnd
  obtain ⟨al,h1,h2,h3,h4⟩:=laid_list hi hrow hp he hft hfo hs hc hcs r q hrest (fun b off hm=>hrows b off (List.mem_append_right _ hm)) hnq (fun x hx=>hL x (List.mem_cons_of_mem _ hx))
  by_cases hE:isErr (n,d)=true
  case neg =>
   have hE:isErr (n,d)=false:=by simpa using hE
   rw [List.filter_cons_of_neg (by simp [hE])]
   exact ⟨al,h1,h2,fun a ha=>⟨(h3 a ha).1,List.mem_append_right _ (h3 a ha).2⟩,h4⟩
  obtain ⟨⟨text,hx⟩,hty⟩:=hL (n,d) (List.mem_cons_self ..) hE
  rw [List.filter_cons_of_pos hE]
  simp only at hx
  subst hx
  obtain rfl:=Option.some.inj ((hty g hg).symm.trans ht)
  obtain ⟨l⟩:=cs
  have hcell0:∀ v,l=[v]→W.cell? ⟨g,0,none⟩=some v:=fun v e=>by
   subst e
   simpa using World.var?_cell hg hvar 0
  obtain ⟨a,s,rfl,ha,_,_,rfl⟩:=errorString_of_trod hi hrow hp he hft hfo hs hc hcs hd (fun u v e=>by
   simp only at e
   subst e
   exact (hrows g 0 (by simp [MemPlace.row])).2 u v (hcell0 _ rfl))
  have hsp:a.spot=none:=World.cell?_spot ha
  have hpl:MemPlace.cell a.block a.off ∈ MemPlace.row a 1:=by simp [MemPlace.row]
  refine ⟨a::al,by simp [h1],List.nodup_cons.2 ⟨fun hm=>?_,h2⟩,?_,?_⟩
  ·have hq:=(h3 a hm).2
   have:=(List.nodup_append.1 hnd).2.2 (MemPlace.cell a.block a.off) (List.mem_append_right _ hpl) _ hq
   exact this rfl
  ·intro b hb
   rcases List.mem_cons.1 hb with rfl|hb
   ·exact ⟨hsp,List.mem_append_left _ (List.mem_append_right _ hpl)⟩
   ·exact ⟨(h3 b hb).1,List.mem_append_right _ (h3 b hb).2⟩
  ·intro i x b hi' hb
   match i,hi',hb with
   | 0,hi',hb =>
    simp only [List.getElem?_cons_zero,Option.some.injEq] at hi' hb
    subst hi'
    subst hb
    exact ⟨g,hg,hcell0 _ rfl⟩
   | i+1,hi',hb=>exact h4 i x b (by simpa using hi') (by simpa using hb)

theorem starRow (u : TypeId) (h : Tryz.prog.typeName? 3 u = some "*errors.errorString") : u = 356 := by
 have e : "*errors.errorString" = "*" ++ "errors.errorString" := by decide +kernel
 exact typeName_ptr_named (nm := "errors.errorString") (by rw [← e]; kernel_rfl) (by kernel_rfl) (by decide) u (by rw [← e]; exact h)
theorem cellsErr:Tryz.prog.cellsOf 378=1:=by kernel_rfl
theorem cellsStr:Tryz.prog.cellsOf 9=1:=by kernel_rfl

theorem sent_of_laid {W:World} {L:List (String×DataW Unit)} {g0:List Nat} (h:laidMetH Tryz.prog L W) (h1:(L.all fun x=>x.2.handleName?.isNone)=true)
  (h3:((L.filter isErr).map fun x=>Tryz.prog.globalNamed x.1)=(errG g0).map some) (h4:((errG g0).map fun g=>(Tryz.prog.globals[g]?).map (·.type))=List.replicate (errG g0).length (some 25))
  (ht:tabA ∈ lst g0→tabB ∈ lst g0→Lib.Utf8Tabs tabA tabB W) (hAB:((lst g0).contains tabA)=((lst g0).contains tabB)):∃ al,SentL W g0 al:=by
 rw [MakeChecks.laidMetH_plain _ _ _ h1] at h
 obtain ⟨ps,hv,hnd,hrows⟩:=h
 have hlen:(L.filter isErr).length=(errG g0).length:=by simpa using congrArg List.length h3
 have hgl:∀ (i:Nat) (x:String×DataW Unit),(L.filter isErr)[i]?=some x→∃ g,(errG g0)[i]?=some g∧Tryz.prog.globalNamed x.1=some g:=by
  intro i x hx
  have:=congrArg (fun l=>l[i]?) h3
  simp only [List.getElem?_map,hx,Option.map_some] at this
  obtain ⟨g,hg,e⟩:=Option.map_eq_some_iff.1 this.symm
  exact ⟨g,hg,e.symm⟩
 obtain ⟨al,l1,l2,l3,l4⟩:=laid_list Tryz.underlying25 starRow Tryz.underlying356 Tryz.underlying378 rfl rfl Tryz.underlying9 cellsErr cellsStr L ps hv hrows hnd
  (fun x hx hE=>⟨isErr_out hE,fun g hg=>by
   obtain ⟨i,hi⟩:=List.mem_iff_getElem?.1 (List.mem_filter.2 ⟨hx,hE⟩)
   obtain ⟨g',hg',e⟩:=hgl i x hi
   obtain rfl:=Option.some.inj (e.symm.trans hg)
   have:=congrArg (fun l=>l[i]?) h4
   simp only [List.getElem?_map,hg',Option.map_some] at this
   have hlt:i<(errG g0).length:=(List.getElem?_eq_some_iff.1 hg').1
   rw [List.getElem?_replicate,if_pos hlt] at this
   exact Option.some.inj this⟩)
 have hvar:∀ i g,(errG g0)[i]?=some g→W.cell? ⟨g,0,none⟩=some (ev al (i+1)):=by
  intro i g hg
  have hlt:i<(errG g0).length:=(List.getElem?_eq_some_iff.1 hg).1
  obtain ⟨x,hx⟩:∃ x,(L.filter isErr)[i]?=some x:=⟨(L.filter isErr)[i],List.getElem?_eq_getElem (by omega)⟩
  obtain ⟨a,ha⟩:∃ a,al[i]?=some a:=⟨al[i],List.getElem?_eq_getElem (by omega)⟩
  obtain ⟨g',hg',e⟩:=hgl i x hx
  obtain rfl:=Option.some.inj (hg.symm.trans hg')
  obtain ⟨g2,e2,hc⟩:=l4 i x a hx ha
  obtain rfl:=Option.some.inj (e.symm.trans e2)
  rw [hc]
  simp [ev,ha]
 refine ⟨al,by omega,fun i j g g' hi _ hj _ e=>(List.getElem?_inj (by have:=(List.getElem?_eq_some_iff.1 hi).1;omega) l2).1 e,fun i g hi _=>hvar i g hi,fun a ha=>(hrows a.block a.off (l3 a ha).2).1,ht,fun g hg=>?_⟩
 by_cases hT:(Nat.beq g tabA || Nat.beq g tabB)=true
 ·have hc:tabA ∈ lst g0∧tabB ∈ lst g0:=by
   rcases Bool.or_eq_true_iff.1 hT with e|e
   ·have:=Nat.eq_of_beq_eq_true e
    subst this
    have h5:(lst g0).contains tabA=true:=List.contains_iff_mem.2 hg
    exact ⟨hg,List.contains_iff_mem.1 (hAB ▸ h5)⟩
   ·have:=Nat.eq_of_beq_eq_true e
    subst this
    have h5:(lst g0).contains tabB=true:=List.contains_iff_mem.2 hg
    exact ⟨List.contains_iff_mem.1 (hAB.symm ▸ h5),hg⟩
  have hU:=ht hc.1 hc.2
  rcases Bool.or_eq_true_iff.1 hT with e|e
  ·have:=Nat.eq_of_beq_eq_true e
   subst this
   exact World.block_lt_of_cell? W _ (hU.1 0 (by decide))
  ·have:=Nat.eq_of_beq_eq_true e
   subst this
   exact World.block_lt_of_cell? W _ (hU.2 0 (by decide)).1
 ·have hm:g ∈ errG g0:=List.mem_filter.2 ⟨(lst_mem.1 hg).1,by
   cases hb:(Nat.beq g tabA || Nat.beq g tabB) with
   | true=>exact absurd hb hT
   | false=>rfl⟩
  obtain ⟨i,hi⟩:=List.mem_iff_getElem?.1 hm
  exact World.block_lt_of_cell? W _ (hvar i g hi)
theorem bs_of_trod {P:Program} {W:World} {T E:TypeId} {ao:Option Addr} {len cap:Nat} {H:Type} {enc:TypeId×Value→H} {d:DataW H} {ps:List MemPlace}
  (hT:P.underlying T=some (.slice E)) (hE:P.underlying E=some (.int .u8)) (hc:P.cellsOf E=1)
  (h:DataW.Trod enc P W 0 (fun _=>true) true T (.slice ao len cap) d ps):∃ l,Bs W (.slice ao len cap) l:=by
 obtain ⟨fuel,hf⟩:=h
 rcases open_ints hT hE hc hf with ⟨hcs,_⟩|⟨x,l,c,zs,hcs,_,hl,hm,hz,_,hcell,hwz⟩
 ·simp [Value.cells] at hcs
  obtain ⟨rfl,rfl,rfl⟩:=hcs
  exact ⟨[],Bs.nil W⟩
 ·simp [Value.cells] at hcs
  obtain ⟨rfl,rfl,rfl⟩:=hcs
  have hz':zs.length=cap:=by simpa using hz
  have hlen:((zs.take len).map fun z=>UInt8.ofNat z.toNat).length=len:=by simp;omega
  have key:∀ i,i<len→W.cell? (x.add i)=some (.int .u8 ((((zs.take len).map fun z=>UInt8.ofNat z.toNat).getD i 0).toNat:Nat)):=by
   intro i hi
   rw [hcell i (by omega)]
   have hzi:zs[i]?=some (zs.getD i 0):=by simp [List.getD,show i<zs.length by omega]
   have hwf:=hwz (zs.getD i 0) (List.mem_of_getElem? hzi)
   have hb:=bounds_u8 hwf
   have e:((zs.take len).map fun z=>UInt8.ofNat z.toNat).getD i 0=UInt8.ofNat (zs.getD i 0).toNat:=by
    simp [List.getD,hi,show i<zs.length by omega]
   rw [e,UInt8.toNat_ofNat']
   congr 2
   omega
  obtain ⟨b,o,sp⟩:=x
  have hm':cap≤9223372036854775807:=by unfold maxLen at hm;omega
  by_cases h0:len=0
  ·subst h0
   exact ⟨[],_,cap,rfl,by simp,hm',by simp,fun y hy=>by
    cases hy
    exact ⟨fun h=>by simp at h,fun i hi=>by simp at hi⟩⟩
  ·have hsp:sp=none:=by
    have:=World.cell?_spot (key 0 (by omega))
    simpa [Addr.add] using this
   subst hsp
   refine ⟨(zs.take len).map fun z=>UInt8.ofNat z.toNat,?_⟩
   have:=Bs.of_cells (w:=W) (b:=b) (o:=o) (cap:=cap) (l:=(zs.take len).map fun z=>UInt8.ofNat z.toNat) (by omega) hm' (fun i hi=>by
    have:=key i (by omega)
    rwa [Addr.add_lit] at this)
   rwa [hlen] at this
end Go.Proofs.YthlpfjnkieaeeaaGreatDoor
namespace Go.Proofs.YthlpfjnkieaeeaaGreatDoor
set_option linter.unusedVariables false
open Go.RowKit Go.ChangeShapes
def tabRen:Go.Shelf.Ren:=⟨fun n=>n,fun|5=>5|119=>330|138=>332|139=>333|n=>n,fun|3=>29|4=>30|n=>n⟩
theorem tabTypes:U8Types Tryz.prog tabRen where
 t5:=Tryz.underlying5
 t119:=Tryz.underlying330
 t138:=Tryz.underlying332
 t139:=Tryz.underlying333
theorem tabExtra:U8Extra Tryz.prog tabRen where
 n3:=by kernel_rfl
 n4:=by kernel_rfl
 y3:=by kernel_rfl
 y4:=by kernel_rfl
 c5:=by kernel_rfl
 c119:=by kernel_rfl
 c138:=by kernel_rfl
theorem tabs_of_laid {W : World} {L : List (String × DataW Unit)} (h : laidMetH Tryz.prog L W) (h1 : (L.all fun x => x.2.handleName?.isNone) = true) {i j : Nat} (hi : L[i]? = some ("unicode/utf8.first", Lib.firstData)) (hj : L[j]? = some ("unicode/utf8.acceptRanges", Lib.acceptData)) : Lib.Utf8Tabs tabA tabB W := by
 rw [MakeChecks.laidMetH_plain _ _ _ h1] at h
 obtain ⟨ps,hv,hnd,hrows⟩:=h
 exact utf8Tabs_of_readsT (ρ:=tabRen) tabTypes tabExtra (Lib.LaidVars_reads hv _ _ (List.mem_of_getElem? hi)) (Lib.LaidVars_reads hv _ _ (List.mem_of_getElem? hj))
end Go.Proofs.YthlpfjnkieaeeaaGreatDoor
namespace Go.Proofs.YthlpfjnkieaeeaaGreatDoor
set_option linter.unusedVariables false
open Go.RowKit Go.ChangeShapes
def u8ren:Go.Shelf.Ren:=⟨fun|196=>270|259=>288|n=>n,fun|0=>0|3=>3|4=>4|5=>5|9=>9|12=>12|46=>267|53=>291|119=>330|138=>332|139=>333|n=>n,fun|3=>29|4=>30|n=>n⟩
theorem u8lays:Go.Proofs.Lays.n196 Tryz.prog u8ren:={
 mixed:=by kernel_rfl
 f196:=Tryz.func270.trans (congrArg some (by kernel_rfl))
 f259:=Tryz.func288.trans (congrArg some (by kernel_rfl))
 t0:=Tryz.underlying0
 a0:=Tryz.isAgg0
 z0:=Tryz.sizeOf0
 v0:=Tryz.zeroValue0
 t3:=Tryz.underlying3
 a3:=Tryz.isAgg3
 z3:=Tryz.sizeOf3
 v3:=Tryz.zeroValue3
 t4:=Tryz.underlying4
 a4:=Tryz.isAgg4
 z4:=Tryz.sizeOf4
 v4:=Tryz.zeroValue4
 t5:=Tryz.underlying5
 a5:=Tryz.isAgg5
 z5:=Tryz.sizeOf5
 v5:=Tryz.zeroValue5
 t9:=Tryz.underlying9
 a9:=Tryz.isAgg9
 z9:=Tryz.sizeOf9
 v9:=Tryz.zeroValue9
 t12:=Tryz.underlying12
 a12:=Tryz.isAgg12
 z12:=Tryz.sizeOf12
 v12:=Tryz.zeroValue12
 t46:=Tryz.underlying267
 a46:=Tryz.isAgg267
 z46:=Tryz.sizeOf267
 v46:=Tryz.zeroValue267
 t53:=Tryz.underlying291
 a53:=Tryz.isAgg291
 z53:=Tryz.sizeOf291
 v53:=Tryz.zeroValue291
 t119:=Tryz.underlying330
 a119:=Tryz.isAgg330
 z119:=Tryz.sizeOf330
 t138:=Tryz.underlying332
 a138:=Tryz.isAgg332
 z138:=Tryz.sizeOf332
 v138:=Tryz.zeroValue332
 t139:=Tryz.underlying333
 a139:=Tryz.isAgg333
 z139:=Tryz.sizeOf333
 v139:=Tryz.zeroValue333
 g3:=by kernel_rfl
 g4:=by kernel_rfl }
namespace Am
class OkT (l:List Nat):Prop where
 a:tabA ∈ lst l
 b:tabB ∈ lst l
instance okTT:OkT gsT:=⟨by decide,by decide⟩
theorem valid_ac {gs:List Nat} [OkT gs] (l:List UInt8) (hl:l.length≤9223372036854775807):ACp gs Tryz.prog 270 [strC l] (.c (.bool (Lib.validD l))) :=
 ac_old fun al w St vals hs hv hr=>by
  have h0:vals.getD 0 undef=.string ⟨l.toArray⟩:=hr 0
  rw [vals1 hv,h0]
  exact Any.utf8_ValidString u8lays ⟨l.toArray⟩ w hl (hs.tab OkT.a OkT.b)
end Am
end Go.Proofs.YthlpfjnkieaeeaaGreatDoor
namespace Go.Proofs.YthlpfjnkieaeeaaGreatDoor
set_option linter.unusedVariables false
namespace Am
open Go.RowKit
section
open Go.RowKit Go.Lib
def RefSt (b n c least:Nat):Prop :=
 (n=0∧c=b∧least=0∧b<128∧32≤b∧b≠127)∨(n=1∧c+192=b∧least=128∧b<224)∨(n=2∧c+224=b∧least=2048∧b<240)∨(n=3∧c+240=b∧least=65536∧b<248)
def cR (d:List UInt8) (c0:Nat):Nat→Nat
 | 0=>c0
 | j+1=>cR d c0 j * 64+bt d (j+1)-128
theorem bt_drop (l:List UInt8) (i j:Nat):bt (l.drop i) j=bt l (i+j):=by simp [bt,List.getD]
theorem dec_at (l:List UInt8) (i:Nat):Utf8.decode ⟨l.toArray⟩ i=dec1 (l.drop i):=by
 unfold dec1
 rw [Lib.decode_at,ba_bang,ba_bang,ba_bang,ba_bang,bt_drop,bt_drop,bt_drop,bt_drop,List.length_drop]
 rfl
theorem dec1_le {d:List UInt8} (hd:d≠[]):(dec1 d).2≤d.length:=by
 have hp:=List.length_pos_iff.2 hd
 unfold dec1 Lib.decodeN
 repeat' split
 all_goals first|(simp only;omega)|omega
end
section
theorem plain07_ac {gs:List Nat} [OkT gs] (l:List UInt8) (hl:l.length≤1000000000):ACp gs Tryz.prog 258 [strC l] (.c (.bool (plainM l))):=by
 refine ac_of 18 Tryz.func258 rfl rfl rfl (fun al w0 F0 St0=>?_)
 refine jU 167516 ?_
 refine jqe (e_range rfl rfl Tryz.underlying9 rfl rfl (fun p1=>?_))
 refine jU 205 ?_;refine l_loop (α:=Nat) [2,4,7,8,9,10,11,12,13,14,15] (fun i=>[]) (fun i=>[(some p1,.obj (iterOP ⟨l.toArray⟩ i))]) (fun i=>i≤l.length∧noBadM (l.drop i)=noBadM l) (fun i=>l.length-i) (0) ?_ (fun _=>rfl) ?_ ?_ ?_
 ·exact ⟨Nat.zero_le _,rfl⟩
 ·exact .nil
 ·exact .same .nil
 ·rintro i ⟨hi,he⟩
  refine jcr ?_
  refine seq_md (wanted_none rfl) (m_next rfl rfl rfl rfl rfl (fun n23=>?_) (fun n23=>?_))
  ·refine jU 51900620810900075900 ?_
   have hd:=dec_at l i
   have hlt:i<l.length:=n23
   have hne:l.drop i≠[]:=by intro e;have:=congrArg List.length e;simp at this;omega
   have hw:=dec1_width (l.drop i)
   have hwl:=dec1_le hne
   simp only [List.length_drop] at hwl
   rw [← hd] at hw hwl
   refine jU 1216 ?_;refine jqsp 12 (fun g24=>?_) fun g24=>?_
   ·refine jU 51690005800044 ?_
    refine jR (jbr (jtr (jbr (jtr (jrt (hv:=?_))))))
    refine cB ?_
    rw [plainM_two,← he,noBadM_step hne,← hd,if_pos ?_]
    ·rfl
    ·unfold badR;simp only [Bool.or_eq_true,decide_eq_true_eq];omega
   refine jU 550021 ?_;refine jcc (fun h24=>?_) fun h24=>?_
   ·refine jU 516 ?_
    refine jR (jbr (jtr (jbr (jtr (jrt (hv:=?_))))))
    refine cB ?_
    rw [plainM_two,← he,noBadM_step hne,← hd,if_pos ?_]
    ·rfl
    ·unfold badR;simp only [Bool.or_eq_true,decide_eq_true_eq];omega
   refine jU 840010 ?_
   refine jlend (i+(Utf8.decode ⟨l.toArray⟩ i).2) ?_ ?_ (h5:=?_) (h7:=?_)
   ·refine ⟨by omega,?_⟩
    have hb:¬ badR (Utf8.decode ⟨l.toArray⟩ i).1=true:=by unfold badR;simp only [Bool.or_eq_true,decide_eq_true_eq];omega
    rw [← he,noBadM_step hne,← hd,if_neg hb,List.drop_drop]
   ·show l.length-(i+(Utf8.decode ⟨l.toArray⟩ i).2)<l.length-i;omega
   ·exact .nil
   ·exact .same .nil
  ·refine jU 168400020002000600030075900 ?_
   refine jqe (jecP (valid_ac l (by omega)) ?_)
   refine jU 51 ?_
   refine jR (jrt (hv:=?_))
   refine cB ?_
   have e:l.drop i=[]:=List.drop_eq_nil_of_le (Nat.le_of_not_lt n23)
   rw [plainM_two,← he,e]
   rfl
end
section
theorem wrap16 (n:Int):IntKind.u16.wrap n=n % 65536:=by simp [IntKind.wrap,IntKind.bits,IntKind.signed]
theorem shl8_16 {M:Nat} (z:Int) (hz:z=8):IntKind.u16.wrap (((M:Nat):Int) * 2 ^ (min z.toNat 16))=((M % 256 * 256:Nat):Int):=by
 subst hz
 rw [wrap16,show min (8:Int).toNat 16=8 from rfl,show ((2:Int) ^ 8)=256 from rfl]
 omega
theorem shr8_16 {M:Nat} (z:Int) (hz:z=8):Int.fdiv ((M:Nat):Int) (2 ^ (min z.toNat 16))=((M / 256:Nat):Int):=by
 subst hz
 rw [show min (8:Int).toNat 16=8 from rfl,show ((2:Int) ^ 8)=((256:Nat):Int) from rfl,Int.fdiv_eq_ediv_of_nonneg _ (by omega)]
 exact (Int.natCast_ediv M 256).symm
theorem shr8_64 {M:Nat} (z:Int) (hz:z=8):Int.fdiv ((M:Nat):Int) (2 ^ (min z.toNat 64))=((M / 256:Nat):Int):=by
 subst hz
 rw [show min (8:Int).toNat 64=8 from rfl,show ((2:Int) ^ 8)=((256:Nat):Int) from rfl,Int.fdiv_eq_ediv_of_nonneg _ (by omega)]
 exact (Int.natCast_ediv M 256).symm
theorem bv16 {a:Nat} (h:a<65536):BitVec.ofInt 16 ((a:Nat):Int)=BitVec.ofNat 16 a:=by
 apply BitVec.eq_of_toNat_eq;simp
theorem and255 {M:Nat} (h:M<65536):IntKind.u16.wrap ((BitVec.ofInt 16 ((M:Nat):Int) &&& BitVec.ofInt 16 255).toNat:Int)=((M % 256:Nat):Int):=by
 have e:(BitVec.ofInt 16 ((M:Nat):Int) &&& BitVec.ofInt 16 255).toNat=M % 256:=by
  rw [bv16 h,show BitVec.ofInt 16 (255:Int)=BitVec.ofNat 16 255 from rfl,BitVec.toNat_and,BitVec.toNat_ofNat,BitVec.toNat_ofNat,Nat.mod_eq_of_lt (show M<2 ^ 16 from h)]
  exact Nat.and_two_pow_sub_one_eq_mod M 8
 rw [e,wrap16];omega
theorem or_hl {a b:Nat} (ha:a<256) (hb:b<256):IntKind.u16.wrap ((BitVec.ofInt 16 ((a:Nat):Int) ||| BitVec.ofInt 16 ((b * 256:Nat):Int)).toNat:Int)=((a+256 * b:Nat):Int):=by
 have e:(BitVec.ofInt 16 ((a:Nat):Int) ||| BitVec.ofInt 16 ((b * 256:Nat):Int)).toNat=a+256 * b:=by
  rw [bv16 (by omega),bv16 (by omega),BitVec.toNat_or,BitVec.toNat_ofNat,BitVec.toNat_ofNat,Nat.mod_eq_of_lt (show a<2 ^ 16 by omega),Nat.mod_eq_of_lt (show b * 256<2 ^ 16 by omega),Nat.or_comm]
  have:=Nat.two_pow_add_eq_or_of_lt (i:=8) (b:=a) (by omega) b
  rw [show b * 256=2 ^ 8 * b by omega,← this];omega
 rw [e,wrap16];omega
def bitsR (b:List UInt8):Nat:=rev8 (b.getD 1 0).toNat+256 * (if b.length=3 then rev8 (b.getD 2 0).toNat else 0)
theorem tab_wrap {k:IntKind} {L T:List UInt8} {i v:Nat} (h:L=T) (hv:(T.getD i 0).toNat=v) (hk:wide8 k=true):k.wrap ((L.getD i 0).toNat:Int)=((v:Nat):Int):=by
 rw [h,hv];have:=UInt8.toNat_lt (T.getD i 0);exact wide8_wrap hk (by omega) (by omega)
def turnM (m:Nat):Nat→Nat
 | 0=>rev16 m
 | j+1=>turnM m j % 256 * 256
def outL (m:Nat):Nat→List UInt8
 | 0=>[UInt8.ofNat ((8-bl m % 8) % 8)]
 | j+1=>outL m j++[UInt8.ofNat (turnM m j / 256)]
theorem turnM_lt {m:Nat} (h:m<65536) (j:Nat):turnM m j<65536:=by
 cases j with
 | zero=>exact rev16_lt h
 | succ j=>show turnM m j % 256 * 256<65536;omega
theorem outL_len (m j:Nat):(outL m j).length=1+j:=by
 induction j with
 | zero=>rfl
 | succ j ih=>show (outL m j++_).length=_;rw [List.length_append,ih,List.length_singleton];omega
theorem outL_end {m:Nat} (h:m<65536):outL m ((bl m+7) / 8)=flagsL m:=by
 have h3:=(bl_is h).2
 have r1:=rev8_lt (i:=m / 256) (by omega)
 have r2:=rev8_lt (i:=m % 256) (by omega)
 have t0:turnM m 0 / 256=rev8 (m % 256):=by show rev16 m / 256=_;unfold rev16;omega
 have t1:turnM m 1 / 256=rev8 (m / 256):=by show rev16 m % 256 * 256 / 256=_;unfold rev16;omega
 unfold flagsL
 by_cases h0:bl m=0
 ·rw [if_pos h0,h0];simp only [Nat.reduceAdd,Nat.reduceDiv,outL,h0]
 ·rw [if_neg h0]
  by_cases h8:bl m≤8
  ·rw [if_pos h8,show (bl m+7) / 8=1 by omega];simp only [outL,t0];rfl
  ·rw [if_neg h8,show (bl m+7) / 8=2 by omega];simp only [outL,t0,t1];rfl
def bp (M:Nat):Nat→Nat
 | 0=>0
 | i+1=>if M / 2 ^ i % 2=1 then i+1 else bp M i
def turnedM (b:List UInt8):Nat:=(b.getD 1 0).toNat % 256 * 256+(if b.length=3 then (b.getD 2 0).toNat else 0)
end
section
variable {gs:List Nat} [Ok9 gs]


theorem rev16_ac {gs:List Nat} (x:Nat) (hx:x<65536):ACp gs Tryz.prog 223 [.c (.int .u16 (x:Nat))] (.c (.int .u16 (rev16 x:Nat))):=by
 have h1:=rev8_lt (i:=x / 256) (by omega)
 have h2:=rev8_lt (i:=x % 256) (by omega)
 refine ac_of 13 Tryz.func223 rfl rfl rfl (fun al w0 F0 St0=>?_)
 refine jU 7516 ?_;refine jcd (.rd 0 (.rd 1 (.rd 2 (.rd 3 (.rd 4 (.rd 5 (.rd 6 (.rd 7 (.rd 8 (.rd 9 (.rd 10 .done))))))))))) ?_;refine jU 70 ?_;refine jyq (rd_shr rfl rfl rfl (by (omega)) (((x / 256:Nat):Int)) (shr8_16 _ rfl)) ?_;refine jyq (rd_indexS rfl rfl rfl Tryz.underlying9 (show _=((x / 256:Nat):Int) by omega) (by exact Nat.lt_of_lt_of_eq (show x / 256<256 by omega) (by kernel_rfl))) ?_;refine jyq (rd_convI rfl rfl Tryz.underlying5 Tryz.underlying274 (((rev8 (x / 256):Nat):Int)) (tab_wrap (T:=rev8T) (by kernel_rfl) (rev8T_get (by omega)) rfl)) ?_;refine jU 70 ?_;refine jyq (rd_and rfl rfl rfl (((x % 256:Nat):Int)) (and255 hx)) ?_;refine jyq (rd_indexS rfl rfl rfl Tryz.underlying9 (show _=((x % 256:Nat):Int) by omega) (by exact Nat.lt_of_lt_of_eq (show x % 256<256 by omega) (by kernel_rfl))) ?_;refine jyq (rd_convI rfl rfl Tryz.underlying5 Tryz.underlying274 (((rev8 (x % 256):Nat):Int)) (tab_wrap (T:=rev8T) (by kernel_rfl) (rev8T_get (by omega)) rfl)) ?_;refine jyq (rd_shl rfl rfl rfl (by (omega)) (((rev8 (x % 256) % 256 * 256:Nat):Int)) (shl8_16 _ rfl)) ?_;refine jyq (rd_or rfl rfl rfl (((rev8 (x / 256)+256 * (rev8 (x % 256) % 256):Nat):Int)) (or_hl h1 (by omega))) ?_;refine jU 88070 ?_
 refine jR (jrt (hv:=?_))
 refine cI ?_
 unfold rev16;omega
theorem len64_ac {gs:List Nat} (m:Nat) (hm:m<65536):ACp gs Tryz.prog 257 [.c (.int .u64 (m:Nat))] (.c (.int .i64 (bl m:Nat))):=by
 refine ac_of 25 Tryz.func257 rfl rfl rfl (fun al w0 F0 St0=>?_)
 refine jU 52167516 ?_;refine jcc (fun h338=>?_) fun h338=>?_
 ·exfalso;omega
 refine jU 52167810 ?_;refine jcc (fun h342=>?_) fun h342=>?_
 ·exfalso;omega
 refine jU 52167810 ?_;refine jcc (fun h346=>?_) fun h346=>?_
 rotate_left
 ·refine jU 810 ?_
  obtain ⟨q,hq,hq2⟩:∃ q,q=(if 256≤m then m / 256 else m)∧q<256:=⟨_,rfl,by split <;> omega⟩
  refine jE (weaken 0 (.c (.int .u64 (q:Nat))) (cI (by rw [hq];rw [if_neg (by omega)]))) ?_
  have hl:=(len8_bd hq2).2.1
  refine jU 116 ?_;refine jq (rd_convI rfl rfl Tryz.underlying291 Tryz.underlying5 (((q:Nat):Int)) ((by rw [IntKind.wrap_u8];omega))) ?_;refine jq (rd_indexS rfl rfl rfl Tryz.underlying9 (show _=((q:Nat):Int) by omega) (by exact Nat.lt_of_lt_of_eq hq2 (by kernel_rfl))) ?_;refine jq (rd_convI rfl rfl Tryz.underlying5 Tryz.underlying3 (((len8 q:Nat):Int)) (tab_wrap (T:=len8T) (by kernel_rfl) (len8T_get hq2) rfl)) ?_;refine jU 519 ?_
  refine jR (jrt (hv:=?_))
  refine cI ?_
  unfold bl
  (rw [if_neg (by omega)] at hq ⊢;subst hq;omega)
 refine jU 16 ?_;refine jq (rd_shr rfl rfl rfl (by (omega)) (((m / 256:Nat):Int)) (shr8_64 _ rfl)) ?_;refine jU 8519120051 ?_
 obtain ⟨q,hq,hq2⟩:∃ q,q=(if 256≤m then m / 256 else m)∧q<256:=⟨_,rfl,by split <;> omega⟩
 refine jE (weaken 0 (.c (.int .u64 (q:Nat))) (cI (by rw [hq];rw [if_pos (by omega)]))) ?_
 have hl:=(len8_bd hq2).2.1
 refine jU 116 ?_;refine jq (rd_convI rfl rfl Tryz.underlying291 Tryz.underlying5 (((q:Nat):Int)) ((by rw [IntKind.wrap_u8];omega))) ?_;refine jq (rd_indexS rfl rfl rfl Tryz.underlying9 (show _=((q:Nat):Int) by omega) (by exact Nat.lt_of_lt_of_eq hq2 (by kernel_rfl))) ?_;refine jq (rd_convI rfl rfl Tryz.underlying5 Tryz.underlying3 (((len8 q:Nat):Int)) (tab_wrap (T:=len8T) (by kernel_rfl) (len8T_get hq2) rfl)) ?_;refine jU 519 ?_
 refine jR (jrt (hv:=?_))
 refine cI ?_
 unfold bl
 (rw [if_pos (by omega)] at hq ⊢;subst hq;omega)
theorem blen_ac {gs:List Nat} (m:Nat) (hm:m<65536):ACp gs Tryz.prog 224 [.c (.int .u64 (m:Nat))] (.c (.int .i64 (bl m:Nat))):=by
 refine ac_of 8 Tryz.func224 rfl rfl rfl (fun al w0 F0 St0=>?_)
 refine jU 168103007516 ?_
 refine jqe (jecP (len64_ac m hm) ?_)
 refine jU 51 ?_
 refine jR (jrt (hv:=cZ))
theorem flags_bad (z:Int) (hz:z<0∨32767<z):ACp gs Tryz.prog 175 [.c (.int .i64 z)] (.tup 2 (fl [bsC [],.err 1])):=by
 refine ac_of 41 Tryz.func175 rfl rfl rfl (fun al w0 F0 St0=>?_)
 refine jU 121675116 ?_;refine jqsp 10 (fun g76=>?_) fun g76=>?_
 ·refine jU 790005800044 ?_;refine jcd (.rd 0 (.rd 1 (.rd 2 .done))) ?_;refine jyq (jrde 0) ?_;refine jU 8807070 ?_
  refine jR (jtr (jrt (hv:=cT cN cZ)))
 refine jU 550021 ?_;refine jcc (fun h76=>?_) fun h76=>?_
 rotate_left
 ·exfalso;simp at h76;omega
 refine jcs ?_;refine jcd (.rd 0 (.rd 1 (.rd 2 .done))) ?_;refine jyq (jrde 0) ?_;refine jU 8807070 ?_
 refine jR (jtr (jrt (hv:=cT cN cZ)))
theorem flags_ac {gs:List Nat} (m:Nat) (hm:m<32768):ACp gs Tryz.prog 175 [.c (.int .i64 (m:Nat))] (.tup 2 (fl [bsC (flagsL m),.err 0])):=by
 have hb:=(bl_is (m:=m) (by omega)).2
 refine ac_of 41 Tryz.func175 rfl rfl rfl (fun al w0 F0 St0=>?_)
 refine jU 121675116 ?_;refine jqsp 10 (fun g76=>?_) fun g76=>?_
 ·exfalso;omega
 refine jU 550021 ?_;refine jcc (fun h76=>?_) fun h76=>?_
 ·exfalso;omega
 refine jU 16810 ?_;refine jq (jrv .i64 .u16) ?_
 refine jqe (jecP (rev16_ac m (by omega)) ?_)
 refine jU 1651 ?_;refine jq (jrv .i64 .u64) ?_
 refine jqe (jecP (blen_ac m (by omega)) ?_)
 refine jU 8000001000000910000001651 ?_
 refine jqe (jebl 1 1 zr5 fun p1=>?_)
 refine jU 20516751 ?_;refine jE (blk_ent 0 rfl (Nat.le_refl _) (fun _=>rfl) (fl_by (l2:=[UInt8.ofNat ((8-bl m % 8) % 8)]) (.cons (cI (by rw [u8_ofNat (by omega)];omega)) .nil))) ?_;refine l_loop (α:=Nat×Option Nat) [4,6,7,27,28,29,30,31,32,33,34,35,36,37,38,39] (fun (j,g)=>[(4,.c (.int .u16 (turnM m j:Nat))),(6,.os 0 g 0 (outL m j).length 1),(7,.c (.int .i64 ((8 * j:Nat):Int)))]) (fun (j,g)=>[(g,.blk (outL m j).length (byF (outL m j)))]) (fun j=>j.1≤(bl m+7) / 8) (fun j=>3-j.1) ((0,p1)) ?_ (fun _=>rfl) ?_ ?_ ?_
 ·exact Nat.zero_le _
 ·exact .cons cZ (.cons cZ (.cons cZ .nil))
 ·exact .same .nil
 ·rintro ⟨j,g'⟩ (hj:j≤(bl m+7) / 8)
  have ht:=turnM_lt (m:=m) (by omega) j
  have hol:=outL_len m j
  refine jU 521167 ?_;refine jcc (fun h83=>?_) fun h83=>?_
  rotate_left
  ·refine jU 5111684000200020006000 ?_;refine jE (freeze 0 rfl) ?_;refine jE (thawB 2 (outL m j) rfl rfl (by rfl) rfl) ?_
   refine jR (jrt (hv:=?_))
   have e:j=(bl m+7) / 8:=by omega
   refine cT (CEnt.bs ?_) CEnt.nil
   rw [e];exact outL_end (by omega)
  refine jU 116207810 ?_;refine jq (rd_shr rfl rfl rfl (by (omega)) (((turnM m j / 256:Nat):Int)) (shr8_16 _ rfl)) ?_;refine jq (jrv .u16 .u8) ?_
  refine jqe (jebl 1 1 zr5 fun p2=>?_)
  refine jqm (m_appendB (l2:=[UInt8.ofNat (turnM m j / 256)]) rfl rfl rfl (Nat.le_refl _) (fun _ _=>cZ) (src_os rfl (.inl rfl) (by decide)) rfl (hh_bytes (.cons (cI ((by rw [u8_ofNat (by omega)]))) .nil)) Tryz.underlying22 nu22 sz5 zr5 by5 rfl (by (simp;omega)) (leaf_fl rfl rfl) rfl rfl (fun p3=>?_))
  refine jU 120051 ?_;refine jq (rd_shl rfl rfl rfl (by (omega)) (((turnM m j % 256 * 256:Nat):Int)) (shl8_16 _ rfl)) ?_;refine jU 85191200840051 ?_
  refine jlend ((j+1,p3)) ?_ ?_ (h5:=?_) (h7:=?_)
  ·show j+1≤(bl m+7) / 8;omega
  ·show 3-(j+1)<3-j;omega
  ·exact .cons cZ (.cons cZ (.cons (cI (by omega)) .nil))
  ·exact .same .nil
def rF (M n i:Nat) (j:Nat):CV:=.c (.int .u8 ((gF M n i j:Nat):Int))
end
section
variable {gs:List Nat} [OkG gs]
set_option linter.unusedVariables false
end
section
def lch (c:UInt8):Bool:=(decide (97≤c.toNat) && decide (c.toNat≤122)) || (decide (48≤c.toNat) && decide (c.toNat≤57)) || decide (c.toNat=45)
def labM (l:List UInt8):Bool:=decide (l≠[]) && decide (l.length≤24) && decide (l.getD 0 0≠45) && decide (l.getD (l.length-1) 0≠45) && l.all lch
theorem lab_free {l:List UInt8} (h:labM l=true):(58:UInt8) ∉ l∧(47:UInt8) ∉ l∧l≠[]:=by
 simp only [labM,Bool.and_eq_true,decide_eq_true_eq,List.all_eq_true] at h
 obtain ⟨⟨⟨⟨h1,_⟩,_⟩,_⟩,h2⟩:=h
 exact ⟨fun hm=>by have:=h2 _ hm;revert this;decide,fun hm=>by have:=h2 _ hm;revert this;decide,h1⟩
abbrev S3:=Int×List UInt8×List UInt8
def wordL:List (List UInt8):=[[110,111,100,101],[119,111,114,107,108,111,97,100],[111,112,101,114,97,116,111,114],[98,111,111,116],[99,97]]
def wordM (k:Int):List UInt8:=if k<1 then [] else wordL.getD (k-1).toNat []
def rightS (s:S3):Bool:=decide (1≤s.1) && decide (s.1≤5) && labM s.2.2 && (if s.1=2 then labM s.2.1 else decide (s.2.1=[]))
theorem right_iff (s:S3):rightS s=true↔1≤s.1∧s.1≤5∧labM s.2.2=true∧(s.1=2→labM s.2.1=true)∧(s.1≠2→s.2.1=[]):=by
 simp only [rightS,Bool.and_eq_true,decide_eq_true_eq]
 by_cases h:s.1=2
 ·rw [if_pos h]
  exact ⟨fun ⟨⟨⟨a,b⟩,c⟩,d⟩=>⟨a,b,c,fun _=>d,fun e=>absurd h e⟩,fun ⟨a,b,c,d,_⟩=>⟨⟨⟨a,b⟩,c⟩,d h⟩⟩
 ·rw [if_neg h,decide_eq_true_eq]
  exact ⟨fun ⟨⟨⟨a,b⟩,c⟩,d⟩=>⟨a,b,c,fun e=>absurd e h,fun _=>d⟩,fun ⟨a,b,c,_,d⟩=>⟨⟨⟨a,b⟩,c⟩,d h⟩⟩
theorem kinds {k:Int} (h1:1≤k) (h5:k≤5):k=1∨k=2∨k=3∨k=4∨k=5:=by omega
theorem wordM_nil (k:Int):wordM k=[]↔¬ (1≤k∧k≤5):=by
 constructor
 ·intro h hk
  rcases kinds hk.1 hk.2 with rfl|rfl|rfl|rfl|rfl <;> exact absurd h (by decide)
 ·intro h
  unfold wordM
  by_cases h1:k<1
  ·rw [if_pos h1]
  ·rw [if_neg h1,List.getD_eq_getElem?_getD,List.getElem?_eq_none (by show 5≤_;omega)];rfl
theorem word_idx {k:Int} (h1:1≤k) (h5:k≤5):((wordL.idxOf (wordM k):Nat):Int)+1=k∧wordM k ∈ wordL:=by
 rcases kinds h1 h5 with rfl|rfl|rfl|rfl|rfl <;> decide
def cutM (c:UInt8):List UInt8→List UInt8×List UInt8×Bool
 | []=>([],[],false)
 | x::l=>if x=c then ([],l,true) else (x::(cutM c l).1,(cutM c l).2.1,(cutM c l).2.2)
def textS (s:S3):List UInt8:=wordM s.1++58::(if s.2.1=[] then s.2.2 else s.2.1++47::s.2.2)
def idxW (w:List UInt8):Int:=if w ∈ wordL then (wordL.idxOf w:Nat)+1 else 0
def guessT (t:List UInt8):S3 :=
 if (cutM 47 (cutM 58 t).2.1).2.2=true then (idxW (cutM 58 t).1,(cutM 47 (cutM 58 t).2.1).1,(cutM 47 (cutM 58 t).2.1).2.1) else (idxW (cutM 58 t).1,[],(cutM 58 t).2.1)
def zeroS:S3:=(0,[],[])
def parseT (t:List UInt8):S3×Nat:=if rightS (guessT t)=true∧textS (guessT t)=t then (guessT t,0) else (zeroS,9)
def asKind (t:List UInt8) (k:Int):S3 :=
 if k=2∧(cutM 47 (t.drop ((wordM k).length+1))).2.2=true then (k,(cutM 47 (t.drop ((wordM k).length+1))).1,(cutM 47 (t.drop ((wordM k).length+1))).2.1) else (k,[],t.drop ((wordM k).length+1))
def isKind (t:List UInt8) (k:Int):Prop:=(wordM k).length+1≤t.length∧t.take ((wordM k).length+1)=wordM k++[58]∧rightS (asKind t k)=true∧textS (asKind t k)=t
def oidB:List UInt8:=[49,46,51,46,57,57,57,57,46,49,46]
def oidK:List UInt8:=oidB++[49]
def oidS:List UInt8:=oidB++[50]
def oidN:List UInt8:=oidB++[51]
abbrev P2:=List UInt8×List UInt8
def partsS (s:S3):List P2:=if s.2.1=[] then [(oidK,wordM s.1),(oidN,s.2.2)] else [(oidK,wordM s.1),(oidS,s.2.1),(oidN,s.2.2)]
def stepP (s:S3) (p:P2):S3:=if p.1=oidK then (idxW p.2,s.2.1,s.2.2) else if p.1=oidS then (s.1,p.2,s.2.2) else if p.1=oidN then (s.1,s.2.1,p.2) else s
def guessP (l:List P2):S3:=l.foldl stepP zeroS
theorem guess_parts {s:S3} (h:rightS s=true):guessP (partsS s)=s:=by
 obtain ⟨h1,h5,hn,h2,hs⟩:=(right_iff s).1 h
 obtain ⟨k,sp,nm⟩:=s
 have hk:idxW (wordM k)=k:=by
  have hi:=word_idx h1 h5
  unfold idxW;rw [if_pos hi.2];exact hi.1
 have ks:oidS≠oidK:=by decide
 have kn:oidN≠oidK:=by decide
 have sn:oidN≠oidS:=by decide
 unfold partsS
 by_cases he:sp=[]
 ·subst he
  simp [guessP,stepP,hk,kn,sn,zeroS]
 ·simp [guessP,stepP,hk,ks,kn,sn,zeroS,he]
def ofP (l:List P2):S3×Nat:=if rightS (guessP l)=true∧partsS (guessP l)=l then (guessP l,0) else (zeroS,9)
theorem ofP_iff (l:List P2) (s:S3):ofP l=(s,0)↔rightS s=true∧partsS s=l:=by
 constructor
 ·intro h
  unfold ofP at h
  split at h
  ·rename_i h1
   obtain ⟨rfl,_⟩:=Prod.mk.inj h
   exact h1
  ·simp at h
 ·rintro ⟨h,rfl⟩
  unfold ofP
  rw [guess_parts h,if_pos ⟨h,rfl⟩]
def asKindP (l:List P2) (k:Int):S3:=(k,(if k=2∧1<l.length then (l.getD 1 ([],[])).2 else []),(if 0<l.length then (l.getD (l.length-1) ([],[])).2 else []))
def isKindP (l:List P2) (k:Int):Prop:=rightS (asKindP l k)=true∧partsS (asKindP l k)=l
theorem parts_ref {s:S3} (h:rightS s=true):partsS s=if s.1=2 then [(oidK,wordM s.1),(oidS,s.2.1),(oidN,s.2.2)] else [(oidK,wordM s.1),(oidN,s.2.2)]:=by
 obtain ⟨h1,h5,hn,h2,hs⟩:=(right_iff s).1 h
 unfold partsS
 by_cases hk2:s.1=2
 ·rw [if_pos hk2,if_neg (lab_free (h2 hk2)).2.2]
 ·rw [if_neg hk2,if_pos (hs hk2)]
end
section
theorem hasPre_ac {gs:List Nat} (a b:List UInt8):ACp gs Tryz.prog 177 [strC a,strC b] (.c (.bool (Lib.hasPrefix a b))) :=
 ac_old fun al w St vals hs hv hr=>by
  rw [vals2 hv,show vals.getD 0 undef=.string ⟨a.toArray⟩ from hr 0,show vals.getD 1 undef=.string ⟨b.toArray⟩ from hr 1]
  exact (Tryz.strings_HasPrefix _ _ w).mono (by rintro e w' ⟨rfl,rfl⟩;exact ⟨rfl,Below.refl _ _⟩)
theorem hasSuf_ac {gs:List Nat} (a b:List UInt8) (h:a.length≤9223372036854775807):ACp gs Tryz.prog 178 [strC a,strC b] (.c (.bool (Lib.hasSuffix a b))) :=
 ac_old fun al w St vals hs hv hr=>by
  rw [vals2 hv,show vals.getD 0 undef=.string ⟨a.toArray⟩ from hr 0,show vals.getD 1 undef=.string ⟨b.toArray⟩ from hr 1]
  exact (Tryz.strings_HasSuffix ⟨a.toArray⟩ _ w h).mono (by rintro e w' ⟨rfl,rfl⟩;exact ⟨rfl,Below.refl _ _⟩)
theorem idxB_ac {gs:List Nat} (a:List UInt8) (c:UInt8):ACp gs Tryz.prog 179 [strC a,.c (.int .u8 (c.toNat:Nat))] (.c (.int .i64 (Lib.indexByte a c))) :=
 ac_old fun al w St vals hs hv hr=>by
  rw [vals2 hv,show vals.getD 0 undef=.string ⟨a.toArray⟩ from hr 0,show vals.getD 1 undef=.int .u8 (c.toNat:Nat) from hr 1]
  exact (Tryz.strings_IndexByte _ _ w).mono (by rintro e w' ⟨rfl,rfl⟩;exact ⟨by simp,Below.refl _ _⟩)
def letL:List UInt8:=[97,98,99,100,101,102,103,104,105,106,107,108,109,110,111,112,113,114,115,116,117,118,119,120,121,122,48,49,50,51,52,53,54,55,56,57]
theorem lch_let (c:UInt8):(decide (c.toNat=45) || !decide (Lib.indexByte letL c<0))=lch c:=by
 have key:∀ n:Fin 256,(decide ((UInt8.ofNat n.val).toNat=45) || !decide (Lib.indexByte letL (UInt8.ofNat n.val)<0))=lch (UInt8.ofNat n.val):=by decide +kernel
 have:=key ⟨c.toNat,c.toNat_lt⟩
 simpa using this
theorem pre_hyp (l:List UInt8):Lib.hasPrefix l [45]=decide (l≠[]∧l.getD 0 0=45):=by
 cases l with
 | nil=>decide
 | cons a l =>
  by_cases h:a=45
  ·subst h;simp [Lib.hasPrefix]
  ·have:¬ (45:UInt8)=a:=fun e=>h e.symm
   simp [Lib.hasPrefix,List.isPrefixOf,h,this]
theorem suf_hyp (l:List UInt8):Lib.hasSuffix l [45]=decide (l≠[]∧l.getD (l.length-1) 0=45):=by
 by_cases h0:l=[]
 ·subst h0;decide
 ·obtain ⟨q,c,rfl⟩:∃ q c,l=q++[c]:=⟨l.dropLast,l.getLast h0,(List.dropLast_concat_getLast h0).symm⟩
  have e:(q++[c]).getD ((q++[c]).length-1) 0=c:=by simp [List.getD]
  rw [e]
  unfold Lib.hasSuffix
  rw [Bool.eq_iff_iff,List.isSuffixOf_iff_suffix]
  simp only [decide_eq_true_eq]
  constructor
  ·rintro ⟨t,ht⟩
   exact ⟨h0,(by have:=congrArg List.getLast? ht;simp at this;exact this.symm)⟩
  ·rintro ⟨_,rfl⟩;exact ⟨q,rfl⟩
theorem take_all {l:List UInt8} {i:Nat} (hi:i<l.length) (p:UInt8→Bool):(l.take (i+1)).all p=((l.take i).all p && p (l.getD i 0)):=by
 rw [List.take_succ_eq_append_getElem hi,List.all_append]
 simp [List.getD,hi]
theorem all_no {l:List UInt8} {i:Nat} (hi:i<l.length) (p:UInt8→Bool) (h:p (l.getD i 0)=false):l.all p=false:=by
 rw [List.all_eq_false]
 refine ⟨l[i],List.getElem_mem hi,?_⟩
 have:l.getD i 0=l[i]:=by simp [List.getD,hi]
 rw [← this,h];exact Bool.noConfusion
theorem lab_eq (l:List UInt8):labM l=(decide (l≠[]) && decide (l.length≤24) && !Lib.hasPrefix l [45] && !Lib.hasSuffix l [45] && l.all lch):=by
 unfold labM
 rw [pre_hyp,suf_hyp]
 by_cases h:l=[]
 ·simp [h]
 ·simp [h]
theorem labM_iff {l:List UInt8}:labM l=true↔1≤l.length∧l.length≤24∧(l.getD 0 0).toNat≠45∧(l.getD (l.length-1) 0).toNat≠45∧l.all lch=true:=by
 have e:∀ c:UInt8,c≠45↔c.toNat≠45:=fun c=>not_congr (by rw [← UInt8.toNat_inj];rfl)
 simp only [labM,Bool.and_eq_true,decide_eq_true_eq,e,and_assoc]
 have:l≠[]↔1≤l.length:=List.length_pos_iff.symm
 rw [this]
theorem label_ac {gs:List Nat} (l:List UInt8):ACp gs Tryz.prog 106 [strC l] (.c (.bool (labM l))):=by
 refine ac_of 37 Tryz.func106 rfl rfl rfl (fun al w0 F0 St0=>?_)
 refine jU 160000167516 ?_;refine jqsp 6 (fun g33=>?_) fun g33=>?_
 ·refine jU 51690005800044180004418000444 ?_
  refine jR (jtr (jrt (hv:=?_)))
  refine cB ?_
  rw [lab_eq]
  (simp_all;done)
 refine jU 15002400001 ?_;refine jqsp 11 (fun g33_2=>?_) fun g33_2=>?_
 ·refine jU 516900058000441800044 ?_
  refine jR (jtr (jrt (hv:=?_)))
  refine cB ?_
  rw [lab_eq]
  (simp_all;omega)
 refine jU 1 ?_
 refine jqe (jecP (hasPre_ac l [45]) ?_)
 refine jU 1500 ?_;refine jqsp 15 (fun g33_3=>?_) fun g33_3=>?_
 ·refine jU 51690005800044 ?_
  refine jR (jtr (jrt (hv:=?_)))
  refine cB ?_
  rw [lab_eq]
  (simp_all;done)
 refine jU 1 ?_
 refine jqe (jecP (hasSuf_ac l [45] (by omega)) ?_)
 refine jU 5500 ?_;refine jcc (fun h33=>?_) fun h33=>?_
 ·refine jU 516 ?_
  refine jR (jtr (jrt (hv:=?_)))
  refine cB ?_
  rw [lab_eq]
  (simp_all;done)
 refine jU 205140000167810 ?_;refine l_loop (α:=Nat) [2,3,21,22,23,24,25,26,27,28,29,30,31,32,33,34,35,36] (fun i=>[(21,.c (.int .i64 (i:Nat)))]) (fun _=>[]) (fun i=>i≤l.length∧(l.take i).all lch=true) (fun i=>l.length-i) (0) ?_ (fun _=>rfl) ?_ ?_ ?_
 ·exact ⟨Nat.zero_le _,by simp⟩
 ·exact .cons cZ .nil
 ·(repeat (exact HEnt.nil))
 ·rintro i ⟨hi,he⟩
  refine jU 7526 ?_;refine jcc (fun h36=>?_) fun h36=>?_
  rotate_left
  ·refine jU 51684000200020006000 ?_
   refine jR (jrt (hv:=?_))
   refine cB ?_
   have e:l.take i=l:=List.take_of_length_le (by omega)
   rw [e] at he
   rw [lab_eq,he]
   simp_all
   try omega
  refine jU 75116207810 ?_;refine jcd (.rd 0 (.rd 1 (.rd 2 (.rd 3 (.rd 4 (.rd 5 (.rd 6 (.rd 7 (.rd 8 (.one 9 (.rd 10 (.rd 11 .done)))))))))))) ?_;refine jU 7070 ?_;refine jyq jrix ?_;refine jyq (jrix (i:=0)) ?_;refine jU 70800 ?_;refine jysp 29 (fun g37=>?_) fun g37=>?_
  rotate_left
  ·refine jU 600600600 ?_;refine jys1 ?_;refine jU 8519200840010300880300000600 ?_
   refine jlend (i+1) ?_ ?_ (h5:=?_)
   ·refine ⟨by omega,?_⟩
    rw [take_all (by omega),he,Bool.true_and,← lch_let]
    simp_all
    try omega
   ·show l.length-(i+1)<l.length-i;omega
   ·exact .cons (cI (by omega)) .nil
  refine jU 7070 ?_;refine jyq jrix ?_
  refine jye (jecP (idxB_ac letL (l.getD i 0)) ?_)
  refine jU 8803000000800 ?_;refine jcc (fun h37=>?_) fun h37=>?_
  ·refine jU 516 ?_
   refine jR (jbr (jtr (jtr (jbr (jtr (jrt (hv:=?_)))))))
   refine cB ?_
   rw [lab_eq,all_no (p:=lch) (show i<l.length by omega) (by rw [← lch_let];simp_all;try omega),Bool.and_false]
  refine jU 8519200840010 ?_
  refine jlend (i+1) ?_ ?_ (h5:=?_)
  ·refine ⟨by omega,?_⟩
   rw [take_all (by omega),he,Bool.true_and,← lch_let]
   simp_all
   try omega
  ·show l.length-(i+1)<l.length-i;omega
  ·exact .cons (cI (by omega)) .nil
end
section
variable {gs:List Nat} [Ok9 gs]

theorem asked_ac [OkT gs] (l:List UInt8) (most:Int) (hl:l.length≤1000000000):ACp gs Tryz.prog 225 [strC l,.c (.int .i64 most)] (.err (askedM l most)):=by
 refine ac_of 20 Tryz.func225 rfl rfl rfl (fun al w0 F0 St0=>?_)
 refine jU 516000016207516 ?_;refine jcc (fun h47=>?_) fun h47=>?_
 ·refine jcr ?_;refine jq (jrde 1) ?_;refine jU 51 ?_
  refine jR (jbr (jtr (jrt (hv:=CEnt.errN (by unfold askedM;rw [if_pos (by simpa using h47)])))))
 refine jU 51214000016 ?_;refine jcc (fun h49=>?_) fun h49=>?_
 ·refine jcr ?_;refine jq (jrde 2) ?_;refine jU 51 ?_
  refine jR (jbr (jtr (jrt (hv:=CEnt.errN (by unfold askedM;rw [if_neg (by simpa using h47),if_pos h49])))))
 refine jU 16 ?_
 refine jqe (jecP (plain07_ac l hl) ?_)
 refine jU 5130 ?_;refine jcc (fun h51=>?_) fun h51=>?_
 ·refine jcr ?_;refine jq (jrde 7) ?_;refine jU 51 ?_
  refine jR (jbr (jtr (jrt (hv:=CEnt.errN (by unfold askedM;rw [if_neg (by simpa using h47),if_neg h49,if_pos (by simpa using h51)])))))
 refine jU 516840010 ?_
 refine jR (jrt (hv:=CEnt.nilE (by unfold askedM;rw [if_neg (by simpa using h47),if_neg h49,if_neg (by simpa using h51)])))
theorem xput_ac [OkT gs] (l:List UInt8) (most:Int) (hl:l.length≤1000000000):ACp gs Tryz.prog 176 [strC l,.c (.int .i64 most)] (.tup 2 (fl [bsC (if askedM l most=0 then l else []),.err (askedM l most)])):=by
 refine ac_of 15 Tryz.func176 rfl rfl rfl (fun al w0 F0 St0=>?_)
 refine jU 11675116 ?_
 refine jqe (jecP (asked_ac l most hl) ?_)
 refine jU 55000001651 ?_;refine jcc (fun h59=>?_) fun h59=>?_
 ·refine jU 51116 ?_
  refine jR (jtr (jrt (hv:=cT (CEnt.nilS' (by rw [if_neg h59];rfl)) cZ)))
 refine jU 16810 ?_
 refine jqe (jecv ?_)
 refine jU 511 ?_
 refine jR (jrt (hv:=?_))
 have h:askedM l most=0:=by omega
 exact cT (CEnt.bs (by rw [if_pos h])) (CEnt.nilE h)
end
section
variable {gs:List Nat} [Ok9 gs]
open Go.RowKit Cal

theorem doneW_ac (n:Nat) (s:W8) (hs:OkW s):AC gs Tryz.prog 58 [wrO n s] [.op 0 (some n) 0] (fun r H'=>r=.tup 2 (fl [bsC (doneB s),.err (doneK s)])∧H'=[wrO n s]):=by
 have hsd:=hs.d
 have bad:∀ {e},doneK s=e→e≠0→doneB s=[]:=fun h h0=>by unfold doneB;rw [h,if_neg h0]
 refine ac_of 35 Tryz.func58 rfl rfl rfl (fun al w0 F0 St0=>?_)
 refine jU 2075116 ?_;refine code_openW 0 rfl fun go gd zs hzs=>?_;refine jU 515000005010004016 ?_;refine jcc (fun h140=>?_) fun h140=>?_
 ·refine jcs ?_;refine jcd (.rd 0 (.rd 1 (.rd 2 (.rd 3 (.rd 4 (.rd 5 .done)))))) ?_;refine jU 5000070 ?_;refine jyq (jrfa 2 1 false) ?_;refine jU 300050007000880707010000 ?_
  have e:doneK s=s.k:=by unfold doneK;rw [if_pos (by omega)]
  exact end_packV (gd:=fun z:WZ8 s.fr=>z.1.1) (E:=wrE s) (.inl rfl) ⟨(n,go,gd,zs),hzs⟩ [0,1,2,3] (by decide) rfl (res_2 rfl javt javt) (cT (by rw [bad e (by omega)];exact cN) (CEnt.err e.symm))
 refine jU 512350904016 ?_;refine jcc (fun h142=>?_) fun h142=>?_
 ·refine jcs ?_;refine jcd (.rd 0 (.rd 1 (.rd 2 .done))) ?_;refine jyq (jrde 23) ?_;refine jU 3000500070008807070 ?_
  have e:doneK s=24:=by unfold doneK;rw [if_neg (by omega),if_pos (by intro h;rw [h] at h142;simp at h142)]
  exact end_packV (gd:=fun z:WZ8 s.fr=>z.1.1) (E:=wrE s) (.inl rfl) ⟨(n,go,gd,zs),hzs⟩ [0,1,2,3] (by decide) rfl (res_2 rfl javt javt) (cT (by rw [bad e (by omega)];exact cN) (CEnt.err e.symm))
 refine jU 5123501004016 ?_;refine jcc (fun h144=>?_) fun h144=>?_
 ·refine jcs ?_;refine jcd (.rd 0 (.rd 1 (.rd 2 .done))) ?_;refine jyq (jrde 2) ?_;refine jU 3000500070008807070 ?_
  have hf0:s.fr=[]:=List.eq_nil_of_length_eq_zero (by omega)
  have e:doneK s=3:=by unfold doneK;rw [if_neg (by omega),if_neg (by simp [hf0]),if_pos (by omega)]
  exact end_packV (gd:=fun z:WZ8 s.fr=>z.1.1) (E:=wrE s) (.inl rfl) ⟨(n,go,gd,zs),hzs⟩ [0,1,2,3] (by decide) rfl (res_2 rfl javt javt) (cT (by rw [bad e (by omega)];exact cN) (CEnt.err e.symm))
 refine jU 501004016840010 ?_
 refine jqm (jmcH 2 (cloneO_ac s.d gd (by omega)) ?_)
 rintro _ _ ⟨rfl,rfl⟩
 refine ⟨_,_,rfl,cZ,?_⟩
 refine jU 7000511 ?_
 have hf0:s.fr=[]:=List.eq_nil_of_length_eq_zero (by omega)
 have e:doneK s=0:=by unfold doneK;rw [if_neg (by omega),if_neg (by simp [hf0]),if_neg (by omega)]
 exact end_packV (gd:=fun z:WZ8 s.fr=>z.1.1) (E:=wrE s) (.inl rfl) ⟨(n,go,gd,zs),hzs⟩ [0,1,2,3] (by decide) rfl (res_2 rfl javt javt) (cT (CEnt.bs (by unfold doneB;rw [if_pos e])) (CEnt.nilE e))
theorem intW_ac (n:Nat) (s:W8) (z:Int) (hz:-9223372036854775808≤z∧z≤9223372036854775807) (hs:OkW s):AC gs Tryz.prog 97 [wrO n s] [.op 0 (some n) 0,.c (.int .i64 z)] (fun r H'=>r=.c (.tuple #[])∧H'=[wrO n (putW 2 (putN z) 0 s)]):=by
 have hl:=(putN_len z hz.1 hz.2).2
 refine ac_of 8 Tryz.func97 rfl rfl rfl (fun al w0 F0 St0=>?_)
 refine jU 11200 ?_
 refine jqe (jecP (wput_ac z hz.1 hz.2) ?_)
 refine jqm (jmcH 0 (putW_ac n s 2 (putN z) 0 hs (by omega)) ?_)
 rintro _ _ ⟨rfl,rfl⟩
 refine ⟨_,_,rfl,cZ,?_⟩
 refine jU 5 ?_
 exact end_own (.inr rfl) _ [_] [0] (by decide) rfl (res_0 rfl) ⟨rfl,rfl⟩
theorem octetsW_ac (n:Nat) (s:W8) (b:List UInt8) (hb:b.length≤1000000) (hs:OkW s):AC gs Tryz.prog 56 [wrO n s] [.op 0 (some n) 0,bsC b] (fun r H'=>r=.c (.tuple #[])∧H'=[wrO n (putW 4 b 0 s)]):=by
 refine ac_of 7 Tryz.func56 rfl rfl rfl (fun al w0 F0 St0=>?_)
 refine jU 11200 ?_
 refine jqm (jmcH 0 (putW_ac n s 4 b 0 hs hb) ?_)
 rintro _ _ ⟨rfl,rfl⟩
 refine ⟨_,_,rfl,cZ,?_⟩
 refine jU 5 ?_
 exact end_own (.inr rfl) _ [_] [0] (by decide) rfl (res_0 rfl) ⟨rfl,rfl⟩
theorem textW_ac [OkT gs] (n:Nat) (s:W8) (t:List UInt8) (most:Int) (ht:t.length≤1000000) (hs:OkW s):AC gs Tryz.prog 105 [wrO n s] [.op 0 (some n) 0,strC t,.c (.int .i64 most)] (fun r H'=>r=.c (.tuple #[])∧H'=[wrO n (putW 12 (if askedM t most=0 then t else []) (askedM t most) s)]):=by
 have hl:(if askedM t most=0 then t else []).length≤1000000:=by split <;> first|omega|simp
 refine ac_of 18 Tryz.func105 rfl rfl rfl (fun al w0 F0 St0=>?_)
 refine jU 116 ?_
 refine jqe (jecP (xput_ac t most (by omega)) ?_)
 refine jU 1112005119009001 ?_
 refine jqm (jmcH 0 (putW_ac n s 12 (if askedM t most=0 then t else []) (askedM t most) hs hl) ?_)
 rintro _ _ ⟨rfl,rfl⟩
 refine ⟨_,_,rfl,cZ,?_⟩
 refine jU 5 ?_
 exact end_own (.inr rfl) _ [_] [0] (by decide) rfl (res_0 rfl) ⟨rfl,rfl⟩
theorem momentW_ac (n:Nat) (s:W8) (z:Int) (hs:OkW s):AC gs Tryz.prog 101 [wrO n s] [.op 0 (some n) 0,.c (.int .i64 z)] (fun r H'=>r=.c (.tuple #[])∧H'=[wrO n (putW 24 (if inT z then bodyL (ofM z) else []) (ofE z) s)]):=by
 have hbl:(if inT z then bodyL (ofM z) else []).length≤1000000:=by
  split
  ·exact Nat.le_trans (Nat.le_of_eq (show (bodyL (ofM z)).length=15 from rfl)) (by decide)
  ·simp
 refine ac_of 15 Tryz.func101 rfl rfl rfl (fun al w0 F0 St0=>?_)
 refine jU 16 ?_
 refine jqe (jecP (put_ac z) ?_)
 refine jU 1112005119009001 ?_
 refine jqm (jmcH 0 (putW_ac n s 24 (if inT z then bodyL (ofM z) else []) (ofE z) hs hbl) ?_)
 rintro _ _ ⟨rfl,rfl⟩
 refine ⟨_,_,rfl,cZ,?_⟩
 refine jU 5 ?_
 exact end_own (.inr rfl) _ [_] [0] (by decide) rfl (res_0 rfl) ⟨rfl,rfl⟩
theorem oidW_ac (n:Nat) (s:W8) (t:List UInt8) (ht:t.length≤1000000) (hs:OkW s):AC gs Tryz.prog 173 [wrO n s] [.op 0 (some n) 0,strC t] (fun r H'=>r=.c (.tuple #[])∧H'=[wrO n (putW 6 (putM t) (parseM t).2 s)]):=by
 have hl:(putM t).length≤1000000:=Nat.le_trans (put_len t) (by decide)
 refine ac_of 15 Tryz.func173 rfl rfl rfl (fun al w0 F0 St0=>?_)
 refine jU 16 ?_
 refine jqe (jecP (oput_ac t (by omega)) ?_)
 refine jU 1112005119009001 ?_
 refine jqm (jmcH 0 (putW_ac n s 6 (putM t) (parseM t).2 hs hl) ?_)
 rintro _ _ ⟨rfl,rfl⟩
 refine ⟨_,_,rfl,cZ,?_⟩
 refine jU 5 ?_
 exact end_own (.inr rfl) _ [_] [0] (by decide) rfl (res_0 rfl) ⟨rfl,rfl⟩
theorem flagsW_ac (n:Nat) (s:W8) (z:Int) (hs:OkW s):AC gs Tryz.prog 102 [wrO n s] [.op 0 (some n) 0,.c (.int .i64 z)] (fun r H'=>r=.c (.tuple #[])∧H'=[wrO n (putW 3 (bitsL z) (bitsE z) s)]):=by
 have hf:ACp gs Tryz.prog 175 [.c (.int .i64 z)] (.tup 2 (fl [bsC (bitsL z),.err (bitsE z)])):=by
  unfold bitsL bitsE
  by_cases h:z<0∨32767<z
  ·rw [if_pos h,if_pos h];exact flags_bad z h
  ·rw [if_neg h,if_neg h]
   have:=flags_ac (gs:=gs) z.toNat (by omega)
   rwa [Int.toNat_of_nonneg (by omega)] at this
 have hl:(bitsL z).length≤1000000:=by
  unfold bitsL
  split
  ·simp
  ·rw [flags_len (by omega)]
   have:=(bl_is (m:=z.toNat) (by omega)).2
   omega
 refine ac_of 15 Tryz.func102 rfl rfl rfl (fun al w0 F0 St0=>?_)
 refine jU 16 ?_
 refine jqe (jecP hf ?_)
 refine jU 1112005119009001 ?_
 refine jqm (jmcH 0 (putW_ac n s 3 (bitsL z) (bitsE z) hs hl) ?_)
 rintro _ _ ⟨rfl,rfl⟩
 refine ⟨_,_,rfl,cZ,?_⟩
 refine jU 5 ?_
 exact end_own (.inr rfl) _ [_] [0] (by decide) rfl (res_0 rfl) ⟨rfl,rfl⟩
theorem rawW_ac (n:Nat) (s:W8) (b:List UInt8) (hb:b.length≤1000000) (hs:OkW s):AC gs Tryz.prog 55 [wrO n s] [.op 0 (some n) 0,bsC b] (fun r H'=>r=.c (.tuple #[])∧H'=[wrO n (rawW b s)]):=by
 refine ac_of 16 Tryz.func55 rfl rfl rfl (fun al w0 F0 St0=>?_)
 refine jU 116 ?_
 refine jqe (jecP (check_ac b (by omega)) ?_)
 refine jqm (jmcH 0 (failW_ac n s (depthM b).2) ?_)
 rintro _ _ ⟨rfl,rfl⟩
 refine ⟨_,_,rfl,cZ,?_⟩
 refine jU 5 ?_;refine code_openW 0 rfl fun go gd zs hzs=>?_;refine jU 55000005010004016 ?_;refine jcc (fun h132=>?_) fun h132=>?_
 rotate_left
 ·refine jU 10 ?_
  have hP:rawW b s=failW (depthM b).2 s:=by unfold rawW;rw [if_neg (by omega)]
  rw [hP]
  exact end_pack (gd:=fun z:WZ8 (failW (depthM b).2 s).fr=>z.1.1) (E:=wrE (failW (depthM b).2 s)) (.inr rfl) _ ⟨(n,go,gd,zs),hzs⟩ [0,1,2,3] (by decide) rfl (res_0 rfl) ⟨rfl,rfl⟩
 have hk:(failW (depthM b).2 s).k=0:=by omega
 refine jE (closeW n (failW (depthM b).2 s) zs 0 1 2 3 hzs rfl rfl rfl rfl (by decide) (cO rfl) (cO rfl) cZ (Nat.le_refl _) (fun _ _=>cZ) (Nat.le_refl _) (fun _ _=>cZ)) ?_
 dsimp only [List.set_cons_zero,List.set_cons_succ,List.cons_append,List.nil_append,List.length_cons,List.length_nil,Nat.zero_add,Nat.reduceAdd]
 have hF:failW (depthM b).2 s=s:=by
  obtain ⟨fr,d,k⟩:=s
  unfold failW at hk ⊢
  split
  ·rename_i h
   rw [if_pos h] at hk
   have h:k=0:=h
   have hk0:(depthM b).2=0:=hk
   rw [h,hk0]
  ·rfl
 rw [hF]
 refine jU 11200 ?_
 refine jqm (jmcH 0 (addW_ac n s b hs (by omega)) ?_)
 rintro _ _ ⟨rfl,rfl⟩
 refine ⟨_,_,rfl,cZ,?_⟩
 refine jU 5 ?_
 have hP:rawW b s=addW b s:=by unfold rawW;rw [if_pos hk]
 rw [hP]
 exact end_own (.inr rfl) _ [_] [0] (by decide) rfl (res_0 rfl) ⟨rfl,rfl⟩
end
section
variable {gs:List Nat} [Ok9 gs]
open Go.RowKit Cal

def w0W:W8:=⟨[],[],0⟩
theorem take_set_out {α:Type} (l:List α) (n i:Nat) (x:α) (h:n≤i):(l.set i x).take n=l.take n:=by
 rw [List.take_set,List.set_eq_of_length_le]
 rw [List.length_take];omega
theorem newW {G:Gh} {env:List (Nat×CV)} {b0:Nat→CV} {H:List (Option Nat×Res)} (n i:Nat) {f:Nat→CV} (hi:H[i]?=some (some n,.blk 3 f)) (h0:CEnt (f 0) (.c (.slice none 0 0))) (h1:CEnt (f 1) (.c (.slice none 0 0))) (h2:CEnt (f 2) (.err 0)):EntS G ⟨env,b0,H⟩ ⟨env,b0,H.set i (wrO n w0W)⟩:=by
 have hil:=(List.getElem?_eq_some_iff.1 hi).1
 have os0:∀ {j k:Nat},CEnt (.c (.slice none 0 0)) (.os j none 0 0 k):=fun al St w v h=>⟨rfl,h⟩
 intro St a w hr
 obtain ⟨S1,s1,r1⟩:=ent_none (G:=G) (s:=⟨env,b0,H⟩) (rowF 2 frF frD []) St a w hr
 obtain ⟨S2,s2,r2⟩:=ent_none (G:=G) (s:=⟨env,b0,H++[(none,.blk 0 (rowF 2 frF frD []))]⟩) (byF []) S1 a w r1
 obtain ⟨S3,s3,r3⟩:=bag_new (G:=G) (env:=env) (b0:=b0) (H:=H++[(none,.blk 0 (rowF 2 frF frD []))]++[(none,.blk 0 (byF []))]) S2 a w r2
 obtain ⟨S4,s4,r4⟩:=closeW (G:=G) (env:=env) (b0:=b0) (H:=H++[(none,.blk 0 (rowF 2 frF frD []))]++[(none,.blk 0 (byF []))]++[bagE []]) n w0W [] i H.length (H.length+1) (H.length+2) rfl (go:=none) (gd:=none) (No:=0) (Nd:=0) (f:=f) (Fo:=rowF 2 frF frD []) (Fd:=byF [])
  (by rw [List.append_assoc,List.append_assoc,List.getElem?_append_left hil];exact hi) (by simp) (by simp []) (by simp []) (by simp;omega) (h0.trans os0) (h1.trans os0) h2 (Nat.le_refl _) (fun a h=>absurd h (Nat.not_lt_zero a)) (Nat.le_refl _) (fun a h=>absurd h (Nat.not_lt_zero a)) S3 a w r3
 obtain ⟨S5,s5,r5⟩:=pick_ent (G:=G) (H':=H.set i (wrO n w0W)) (List.range H.length) (range_nodup _) (by
  rw [pickL_range _ _ (by simp)]
  simp only [List.append_assoc]
  rw [take_set_out _ _ _ _ (by omega),take_set_out _ _ _ _ (by omega),take_set_out _ _ _ _ (by omega),List.take_set,List.take_left]) S4 a w r4
 exact ⟨S5,fun b hb=>s5 b (s4 b (s3 b (s2 b (s1 b hb)))),r5⟩
theorem ok0:OkW w0W:=⟨by decide,fun _ h=>(by cases h),by decide⟩
def w1W:W8:=⟨[(48,[])],[],0⟩
def w2W:W8:=⟨[(48,[[2,1,5]])],[],0⟩
def w3W:W8:=⟨[],[48,3,2,1,5],0⟩
def valC (v:VV):CV:=.agg 5 (fl [.c (.int .i64 v.kind),.c (.int .i64 v.n),.c (.bool v.is),bsC v.b,strC v.t])
structure OkV (v:VV):Prop where
 n:-9223372036854775808≤v.n∧v.n≤9223372036854775807
 b:v.b.length≤1000000
 t:v.t.length≤1000000
end
section
variable {gs:List Nat} [Ok9 gs]
open Go.RowKit Cal

def BodyQ (v:VV):CV→List (Option Nat×Res)→Prop:=fun r H'=>(∃ b,r=.tup 3 (fl [.c (.int .i64 (bodyV v).1),bsC b,.c (.int .i64 ((bodyV v).2.2:Nat))])∧((bodyV v).2.2=0→b=(bodyV v).2.1))∧H'=[]
end
section
variable {gs:List Nat} [Ok9 gs]
open Go.RowKit Cal

structure OkRD (s:R8):Prop where
 ok:OkR s
 sum:∀ j,sumL (s.rows.getD j [])≤1000000
 tag:∀ x ∈ s.tags,0≤x∧x<256
 lt:s.tags.length≠0→s.tags.length<s.rows.length
end
section
variable {gs:List Nat} [Ok9 gs]
open Go.RowKit Cal

def lsF (t:Int) (l:List (List UInt8)):List (List UInt8):=if t=49 then sortL l else l
end
section
open Go.RowKit Cal
structure SmallV (v:VV):Prop where
 n:-9223372036854775808≤v.n∧v.n≤9223372036854775807
 b:v.b.length≤300
 t:v.t.length≤300
theorem SmallV.ok {v:VV} (h:SmallV v):OkV v:=⟨h.n,by have:=h.b;omega,by have:=h.t;omega⟩
def frW (fr:List (Int×List (List UInt8))):Nat:=(fr.map fun x=>sumL x.2+6).sum
def wtW (s:W8):Nat:=s.d.length+frW s.fr
theorem frW_cons (x:Int×List (List UInt8)) (fr:List (Int×List (List UInt8))):frW (x::fr)=sumL x.2+6+frW fr:=by simp [frW]
theorem sumL_snoc (l:List (List UInt8)) (b:List UInt8):sumL (l++[b])=sumL l+b.length:=by rw [sumL_app];simp [sumL]
theorem putL_len (tag:Int) (b:List UInt8):(putL tag b).length≤b.length+6:=by
 unfold putL
 have:=lenL_bd b.length
 simp only [List.length_cons,List.length_append]
 omega
theorem wt_add (b:List UInt8) (s:W8):wtW (addW b s)=wtW s+b.length:=by
 obtain ⟨fr,d,k⟩:=s
 cases fr with
 | nil=>simp [wtW,addW,frW]
 | cons x fr =>
  show d.length+frW ((x.1,x.2++[b])::fr)=d.length+frW (x::fr)+_
  rw [frW_cons,frW_cons]
  show d.length+(sumL (x.2++[b])+6+frW fr)=_
  rw [sumL_snoc]
  omega
theorem wt_fail (e:Nat) (s:W8):wtW (failW e s)=wtW s:=by unfold failW;split <;> rfl
theorem wt_put (tag:Int) (b:List UInt8) (e:Nat) (s:W8):wtW (putW tag b e s)≤wtW s+b.length+6:=by
 unfold putW
 split
 ·rw [wt_fail];omega
 ·split
  ·show s.d.length+frW s.fr≤_;unfold wtW;omega
  ·rw [wt_add];have:=putL_len tag b;omega
theorem bodyV_small {v:VV} (h:SmallV v):(bodyV v).2.1.length≤300:=by
 have h1:=h.b
 have h2:=h.t
 have h3:=(putN_len v.n h.n.1 h.n.2).2
 have h4:=put_len v.t
 unfold bodyV
 split
 ·show (putN v.n).length≤_;omega
 ·split
  ·show (putN v.n).length≤_;omega
  ·split
   ·show [if v.is then (255:UInt8) else 0].length≤_;simp
   ·split
    ·exact h1
    ·split
     ·show (if askedM v.t v.n=0 then v.t else []).length≤_;split <;> first|omega|simp
     ·split
      ·show (putM v.t).length≤_;omega
      ·split
       ·show (if inT v.n then bodyL (ofM v.n) else []).length≤_
        split
        ·exact Nat.le_trans (Nat.le_of_eq (show (bodyL (ofM v.n)).length=15 from rfl)) (by decide)
        ·simp
       ·show (bitsL v.n).length≤_
        unfold bitsL
        split
        ·simp
        ·rw [flags_len (by omega)]
         have:=(bl_is (m:=v.n.toNat) (by omega)).2
         omega
theorem wt_do {v:VV} (h:SmallV v) (s:W8):wtW (doW v s)≤wtW s+400:=by
 have hb:=h.b
 unfold doW
 split
 ·unfold openW
  split
  ·omega
  ·split
   ·show s.d.length+frW s.fr≤_;unfold wtW;omega
   ·split
    ·show s.d.length+frW s.fr≤_;unfold wtW;omega
    ·show s.d.length+frW _≤_
     rw [frW_cons]
     unfold wtW
     simp [sumL];omega
 ·split
  ·unfold closeV
   split
   ·omega
   ·obtain ⟨fr,d,k⟩:=s
    cases fr with
    | nil=>show d.length+frW []≤d.length+frW []+_;omega
    | cons x fr =>
     have h1:=wt_put x.1 (bodyF x) 0 ⟨fr,d,k⟩
     rw [bodyF_len] at h1
     refine Nat.le_trans h1 ?_
     show d.length+frW fr+_+_≤d.length+frW (x::fr)+_
     rw [frW_cons]
     omega
  ·split
   ·unfold rawW
    split
    ·rw [wt_add];omega
    ·rw [wt_fail];omega
   ·have h1:=wt_put (bodyV v).1 (bodyV v).2.1 (bodyV v).2.2 s
    have h2:=bodyV_small h
    omega
theorem pad_mem {m:Nat} {r:List (List (List UInt8))} {x:List (List UInt8)} (h:x ∈ padR m r):x ∈ r∨x=[]:=by
 unfold padR at h
 rcases List.mem_append.1 h with h|h
 ·exact .inl h
 ·exact .inr (List.eq_of_mem_replicate h)
theorem at_mem (r:List (List (List UInt8))) (j:Nat):r.getD j [] ∈ r∨r.getD j []=[]:=by
 rw [List.getD_eq_getElem?_getD]
 cases e:r[j]? with
 | none=>exact .inr rfl
 | some x=>exact .inl (List.mem_of_getElem? e)
def Grown (r r':R8):Prop:=(r'.rows.length≤max r.rows.length (r'.tags.length+1))∧∀ x ∈ r'.rows,x ∈ r.rows∨x=[]∨∃ y b,(y ∈ r.rows∨y=[])∧x=y++[b]∧x=r'.rows.getD r'.tags.length []
theorem grown_rows {r r':R8} (h:r'.rows=r.rows):Grown r r':=⟨by rw [h];omega,fun x hx=>.inl (h ▸ hx)⟩
theorem grown_add (b:List UInt8) (r:R8):Grown r (raddS b r):=by
 have hp:r.tags.length<(padR (r.tags.length+1) r.rows).length:=by rw [pad_len];omega
 refine ⟨?_,fun x hx=>?_⟩
 ·show (List.set _ _ _).length≤max _ (r.tags.length+1)
  rw [List.length_set,pad_len]
  omega
 ·rcases List.mem_or_eq_of_mem_set hx with h|h
  ·rcases pad_mem h with h|h
   ·exact .inl h
   ·exact .inr (.inl h)
  ·refine .inr (.inr ⟨_,b,?_,h,?_⟩)
   ·rw [pad_get];exact at_mem _ _
   ·show x=List.getD (List.set _ _ _) r.tags.length []
    rw [set_get _ _ _ _ hp,if_pos rfl]
    exact h
theorem grown_put (t:Int) (b:List UInt8) (r:R8):Grown r (rputS t b r):=by
 unfold rputS
 split
 ·exact grown_rows rfl
 ·exact grown_add _ r
theorem grown_do (v:VV) (r:R8):Grown r (rdoS v r):=by
 unfold rdoS
 split
 ·exact grown_rows rfl
 ·split
  ·unfold ropenS
   split
   ·exact grown_rows rfl
   ·split
    ·exact grown_rows rfl
    ·refine ⟨?_,fun x hx=>?_⟩
     ·show (List.set _ _ _).length≤max _ ((r.tags++[v.n]).length+1)
      rw [List.length_set,pad_len,List.length_append,List.length_singleton]
      omega
     ·rcases List.mem_or_eq_of_mem_set hx with h|h
      ·rcases pad_mem h with h|h
       ·exact .inl h
       ·exact .inr (.inl h)
      ·exact .inr (.inl h)
  ·split
   ·unfold rcloseS
    split
    ·exact grown_rows rfl
    ·exact grown_put _ _ ⟨_,r.rows,r.e⟩
   ·split
    ·split
     ·exact grown_rows rfl
     ·exact grown_add _ r
    ·split
     ·exact grown_rows rfl
     ·exact grown_put _ _ r
theorem frW_mem {fr:List (Int×List (List UInt8))} {x:Int×List (List UInt8)} (h:x ∈ fr):sumL x.2≤frW fr:=by
 induction fr with
 | nil=>cases h
 | cons y fr ih =>
  rw [frW_cons]
  rcases List.mem_cons.1 h with rfl|h
  ·omega
  ·have:=ih h;omega
theorem active_sum {r:R8} {s:W8} (h:Same8 r s):sumL (r.rows.getD r.tags.length [])≤wtW s:=by
 have hl:r.tags.length=s.fr.length:=by rw [h.tags];simp
 obtain ⟨fr,d,k⟩:=s
 cases fr with
 | nil =>
  rw [hl]
  show sumL (r.rows.getD 0 [])≤_
  rw [← flat_len,h.row0]
  unfold wtW
  omega
 | cons x fr =>
  have hr:=h.row fr.length (by simp)
  rw [hl]
  show sumL (r.rows.getD (fr.length+1) [])≤_
  rw [hr]
  have e:((x::fr).map Prod.snd).reverse.getD fr.length []=x.2:=by simp [List.getD_eq_getElem?_getD]
  show sumL (((x::fr).map Prod.snd).reverse.getD fr.length [])≤_
  rw [e]
  have:=frW_mem (fr:=x::fr) (x:=x) List.mem_cons_self
  unfold wtW
  show _≤d.length+frW (x::fr)
  omega
structure Inv8 (i:Nat) (r:R8) (s:W8):Prop where
 same:Same8 r s
 w:wtW s≤400 * i
 rows:∀ x ∈ r.rows,x.length≤i∧sumL x≤400 * i
 n:r.rows.length≤18
theorem inv_zero:Inv8 0 ⟨[],[],0⟩ ⟨[],[],0⟩:=⟨same_zero,by decide,fun _ h=>(by cases h),by decide⟩
theorem inv_do {i:Nat} {r:R8} {s:W8} (h:Inv8 i r s) {v:VV} (hv:SmallV v):Inv8 (i+1) (rdoS v r) (doW v s):=by
 have hs:=same_do h.same v
 have hw:=wt_do hv s
 have hg:=grown_do v r
 have h0:=h.w
 have hl:(rdoS v r).tags.length≤16:=by rw [hs.tags];simpa using hs.lim
 refine ⟨hs,by omega,fun x hx=>?_,?_⟩
 ·rcases hg.2 x hx with h1|h1|⟨y,b,h1,h2,h3⟩
  ·have:=h.rows x h1;omega
  ·subst h1;simp [sumL]
  ·have ha:=active_sum hs
   rw [← h3] at ha
   refine ⟨?_,by omega⟩
   rw [h2,List.length_append,List.length_singleton]
   rcases h1 with h1|h1
   ·have:=h.rows y h1;omega
   ·subst h1;simp
 ·have:=hg.1
  have:=h.n
  omega
theorem inv_fail {i:Nat} {r:R8} {s:W8} (h:Inv8 i r s) (e:Nat):Inv8 i ⟨r.tags,r.rows,if r.e=0 then e else r.e⟩ (failW e s):=by
 have hs:=h.same
 refine ⟨?_,by rw [wt_fail];exact h.w,h.rows,h.n⟩
 unfold failW
 rw [hs.e]
 split
 ·exact ⟨hs.tags,rfl,hs.row0,hs.row,hs.len,hs.known,hs.lim⟩
 ·exact ⟨hs.tags,rfl,hs.row0,hs.row,hs.len,hs.known,hs.lim⟩
theorem inv_okW {i:Nat} {r:R8} {s:W8} (h:Inv8 i r s) (hi:i≤1000):OkW s:=by
 have hw:=h.w
 refine ⟨h.same.lim,fun x hx=>?_,by unfold wtW at hw;omega⟩
 obtain ⟨j,hj⟩:=List.mem_iff_getElem?.1 hx
 have hjl:=(List.getElem?_eq_some_iff.1 hj).1
 have hr:=h.same.row (s.fr.length-1-j) (by omega)
 have e:(s.fr.map Prod.snd).reverse.getD (s.fr.length-1-j) []=x.2:=by
  rw [List.getD_eq_getElem?_getD,List.getElem?_reverse (by simp;omega)]
  simp only [List.length_map,List.getElem?_map]
  rw [show s.fr.length-1-(s.fr.length-1-j)=j by omega,hj]
  rfl
 rw [e] at hr
 have hs:=frW_mem hx
 unfold wtW at hw
 refine ⟨?_,by omega⟩
 rcases at_mem r.rows (s.fr.length-1-j+1) with h1|h1
 ·have:=(h.rows _ h1).1
  rw [hr] at this
  omega
 ·rw [hr] at h1
  rw [h1];simp
end
section
def rdE (l:List (List UInt8)) (k:Nat) (z:Nat×Option Nat):List (Option Nat×Res):=[(some z.1,.blk 2 (fl [.os 1 z.2 0 l.length 1,.err k])),(z.2,.blk l.length (lbF l))]
def rdO (n:Nat) (l:List (List UInt8)) (k:Nat):Option Nat×Res:=objE n (fun z:Nat×Option Nat=>z.1) (rdE l k)
section
variable {P:Program} {G:Gh} {s:AS} {c:Code} {R:Exit→AS→Prop} {n k:Nat} {l:List (List UInt8)}
theorem code_openR0 (i:Nat) (hi:s.H[i]?=some (rdO n l k)) (h:∀ gl,ACode P G c ⟨s.env,s.b,s.H.set i (some n,.blk 2 (fl [.os s.H.length gl 0 l.length 1,.err k]))++[(gl,.blk l.length (lbF l))]⟩ R):ACode P G c s R:=by
 have hlt:=(List.getElem?_eq_some_iff.1 hi).1
 refine code_unpack i hi fun z hz=>?_
 obtain ⟨n',gl⟩:=z
 obtain rfl:n'=n:=hz
 refine jE (weakH i 2 (fl [.os s.H.length gl 0 l.length 1,.err k]) (n:=2) (g:=some n') (f:=fl [.os 1 gl 0 l.length 1,.err k]) ?_ (Nat.le_refl _) fun j hj=>?_) ?_
 ·show (s.H.set i _++_)[i]?=_
  rw [List.getElem?_append_left (by simpa using hlt)]
  simp [hlt]
 ·rcases j with _|_|j
  ·exact cO rfl
  ·exact cZ
  ·omega
 ·have e:(s.H.set i (some n',Res.blk 2 (fl [.os 1 gl 0 l.length 1,.err k]))++[(gl,Res.blk l.length (lbF l))]).set i (some n',.blk 2 (fl [.os s.H.length gl 0 l.length 1,.err k]))=s.H.set i (some n',.blk 2 (fl [.os s.H.length gl 0 l.length 1,.err k]))++[(gl,.blk l.length (lbF l))]:=by
   rw [List.set_append_left _ _ (by simpa using hlt),List.set_set]
  have:=h gl
  rw [← e] at this
  exact this
theorem closeR0 (n k:Nat) (l:List (List UInt8)) (i j:Nat) {gl:Option Nat} {N:Nat} {f F:Nat→CV} (hi:s.H[i]?=some (some n,.blk 2 f)) (hj:s.H[j]?=some (gl,.blk N F)) (hij:Nat.beq i j=false) (h0:CEnt (f 0) (.os 1 gl 0 l.length 1)) (h1:CEnt (f 1) (.err k)) (hN:l.length≤N) (hF:∀ a,a<l.length→CEnt (F a) (lbF l a)) :
  EntS G s ⟨s.env,s.b,(s.H.set i (rdO n l k)).set j (none,.dead)⟩:=by
 have hij:=Nat.ne_of_beq_eq_false hij
 have hil:=(List.getElem?_eq_some_iff.1 hi).1
 have hjl:=(List.getElem?_eq_some_iff.1 hj).1
 refine EntS.hrel fun h=>?_
 have h2:=h.weak (F:=fl [.os 1 gl 0 l.length 1,.err k]) hi (Nat.le_refl _) fun a ha=>by
  rcases a with _|_|a
  ·exact h0
  ·exact h1
  ·omega
 have h3:=h2.weak (i:=j) (F:=lbF l) (by rw [List.getElem?_set_ne hij];exact hj) hN hF
 have h4:=h3.closeN (gd:=fun z:Nat×Option Nat=>z.1) (E:=rdE l k) (n,gl) i [j] (by simp [hij]) (by simp [hil,hjl]) (by
  simp only [pickL,List.map_cons,List.map_nil,List.getD_eq_getElem?_getD]
  rw [List.getElem?_set_ne (Ne.symm hij)]
  simp [hil,hjl,rdE])
 have e:killL (((s.H.set i (some n,Res.blk 2 (fl [CV.os 1 gl 0 l.length 1,CV.err k]))).set j (gl,Res.blk l.length (lbF l))).set i (objE n (fun z:Nat×Option Nat=>z.1) (rdE l k))) [j]=(s.H.set i (rdO n l k)).set j (none,.dead):=by
  show ((((s.H.set i _).set j _).set i _).set j _)=_
  rw [List.set_comm _ _ (Ne.symm hij),List.set_set,List.set_set]
  rfl
 rw [← e]
 exact h4
theorem code_openR {env:List (Nat×CV)} {b0:Nat→CV} {H:List (Option Nat×Res)} (i:Nat) (hi:H[i]?=some (rdO n l k)) (h:∀ gl,ACode P G c ⟨env,b0,H.set i (some n,.blk 2 (fl [.os H.length gl 0 l.length 1,.err k]))++[(gl,.blk l.length (lbF l))]⟩ R):ACode P G c ⟨env,b0,H⟩ R:=code_openR0 i hi h
theorem closeR {env:List (Nat×CV)} {b0:Nat→CV} {H:List (Option Nat×Res)} (n k:Nat) (l:List (List UInt8)) (i j:Nat) {gl:Option Nat} {N:Nat} {f F:Nat→CV} (hi:H[i]?=some (some n,.blk 2 f)) (hj:H[j]?=some (gl,.blk N F)) (hij:Nat.beq i j=false) (h0:CEnt (f 0) (.os 1 gl 0 l.length 1)) (h1:CEnt (f 1) (.err k)) (hN:l.length≤N) (hF:∀ a,a<l.length→CEnt (F a) (lbF l a)) :
  EntS G ⟨env,b0,H⟩ ⟨env,b0,(H.set i (rdO n l k)).set j (none,.dead)⟩:=closeR0 n k l i j hi hj hij h0 h1 hN hF
end
def nowL (l:List (List UInt8)):List UInt8:=l.getD (l.length-1) []
def moreM (l:List (List UInt8)) (k:Nat):Bool:=decide (k=0) && decide (0<(nowL l).length)
theorem now_ac {gs:List Nat} (n:Nat) (l:List (List UInt8)) (k:Nat) (hl:0<l.length∧l.length≤1000000):AC gs Tryz.prog 137 [rdO n l k] [.op 0 (some n) 0] (fun r H'=>r=bsC (nowL l)∧H'=[rdO n l k]):=by
 refine ac_of 15 Tryz.func137 rfl rfl rfl (fun al w0 F0 St0=>?_)
 refine code_openR 0 rfl fun gl=>?_;refine jU 7516 ?_
 skip
 refine jcd (.rd 0 (.rd 1 (.rd 2 (.rd 3 (.rd 4 (.rd 5 (.rd 6 (.rd 7 (.rd 8 (.rd 9 (.rd 10 (.rd 11 (.rd 12 .done))))))))))))) ?_;refine jU 3000020000100009000005000070100009000005000070 ?_;refine jyq (jri (i:=(l.length-1)) (hz:=by omega)) ?_;refine jU 70008807010000 ?_
 exact end_pack (gd:=fun z:Nat×Option Nat=>z.1) (E:=rdE l k) (.inl rfl) _ (n,gl) [0,1] (by decide) rfl (res_1 rfl (arv_tmp rfl)) ⟨rfl,rfl⟩
theorem more_pos {l:List (List UInt8)} {k:Nat} (h:moreM l k=true):k=0∧0<(nowL l).length:=by simpa [moreM] using h
end
section
variable {gs:List Nat} [Ok9 gs]

structure NR where
 l:List (List UInt8)
 k:Nat
 tag:Nat
 body:List UInt8
 raw:List UInt8
 is:Bool
def nextR (tag:Int) (l:List (List UInt8)) (k:Nat):NR :=
 if k≠0 then ⟨l,k,0,[],[],false⟩ else
 if (nextM (nowL l)).e≠0 then ⟨l,(nextM (nowL l)).e,0,[],[],false⟩ else
 if tag≠0∧((nextM (nowL l)).tag:Int)≠tag then ⟨l,5,0,[],[],false⟩ else
 ⟨l.set (l.length-1) (nextM (nowL l)).rest,0,(nextM (nowL l)).tag,(nextM (nowL l)).body,(nowL l).take ((nowL l).length-(nextM (nowL l)).rest.length),true⟩
theorem lb_set {l:List (List UInt8)} {i:Nat} {x:List UInt8} {j:Nat} (hj:j<l.length):CEnt (updF (lbF l) i [bsC x] j) (lbF (l.set i x) j):=by
 refine CEnt.of_eq ?_
 rw [updF_get]
 simp only [lbF,List.length_singleton,List.getD_eq_getElem?_getD,List.getElem?_set]
 by_cases h:i=j
 ·subst h
  rw [if_pos (by omega),if_pos rfl,if_pos hj,Nat.sub_self]
  rfl
 ·rw [if_neg (by omega),if_neg h]
theorem nextR_ac (n:Nat) (l:List (List UInt8)) (k:Nat) (tag:Int) (hl:0<l.length∧l.length≤1000000) (hb:(nowL l).length≤10000000):AC gs Tryz.prog 138 [rdO n l k] [.op 0 (some n) 0,.c (.int .i64 tag)]
  (fun r H'=>r=.tup 3 (fl [elC (nextR tag l k).tag (nextR tag l k).body,bsC (nextR tag l k).raw,.c (.bool (nextR tag l k).is)])∧H'=[rdO n (nextR tag l k).l (nextR tag l k).k]):=by
 have hnb:=nextM_bd (nowL l)
 refine ac_of 67 Tryz.func138 rfl rfl rfl (fun al w0 F0 St0=>?_)
 refine jcr ?_
 refine jqe (jeal (n:=2) zr199 rfl fun p1=>?_)
 refine jU 7511 ?_;refine code_openR 0 rfl fun gl=>?_;refine jU 5500000501004016 ?_;refine jcc (fun h185=>?_) fun h185=>?_
 ·refine jE (closeR n k l 0 2 rfl rfl rfl (cO rfl) cZ (Nat.le_refl _) (fun _ _=>cZ)) ?_
  dsimp only [List.set_cons_zero,List.set_cons_succ,List.cons_append,List.nil_append,List.length_cons,List.length_nil,Nat.zero_add,Nat.reduceAdd]
  refine jcr ?_;refine jq (rd_build (n:=2) rfl zr199 pl199 rfl rfl) ?_
  refine jqm (jmst 2 ?_)
  refine jU 30007000511 ?_
  have hN:nextR tag l k=⟨l,k,0,[],[],false⟩:=by unfold nextR;rw [if_pos (by omega)]
  rw [hN]
  refine end_H (.inl rfl) rfl (res_3 rfl (javA 2) javt javt) ?_
  exact CEnt.tup3 (CEnt.agg2 cZ cN) cN cZ
 refine jU 810 ?_
 obtain rfl:k=0:=by omega
 refine jE (closeR n 0 l 0 2 rfl rfl rfl (cO rfl) cZ (Nat.le_refl _) (fun _ _=>cZ)) ?_
 dsimp only [List.set_cons_zero,List.set_cons_succ,List.cons_append,List.nil_append,List.length_cons,List.length_nil,Nat.zero_add,Nat.reduceAdd]
 refine jU 16 ?_
 refine jqm (jmcH 0 (now_ac n l 0 hl) ?_)
 rintro _ _ ⟨rfl,rfl⟩
 refine ⟨_,_,rfl,cZ,?_⟩
 refine jqe (jecP (next_ac (nowL l) hb) ?_)
 refine jU 9009009001 ?_
 refine jqe (jeal (n:=2) zr199 rfl fun p3=>?_)
 refine jqm (jmst 2 ?_)
 refine jU 5150000016207511 ?_;refine jcc (fun h190=>?_) fun h190=>?_
 ·refine code_openR 0 rfl fun gl2=>?_;refine jU 1004011200 ?_
  refine jqm (jmstF 1 (fl [.os 4 gl2 0 l.length 1,.err (nextM (nowL l)).e]) ?_ ?_)
  ·exact (fun j hj=>by rcases j with _|_|j <;> exact cZ)
  refine jU 84005 ?_
  first
   | refine jE (closeR n (nextM (nowL l)).e l 0 4 rfl rfl rfl (cO rfl) cZ (Nat.le_refl _) (fun _ _=>cZ)) ?_
   | refine jE (closeR n 5 l 0 4 rfl rfl rfl (cO rfl) cZ (Nat.le_refl _) (fun _ _=>cZ)) ?_
  refine jcr ?_;refine jq (rd_build (n:=2) rfl zr199 pl199 rfl rfl) ?_
  refine jqm (jmst 2 ?_)
  refine jU 7000511 ?_
  first
   |(have hN:nextR tag l 0=⟨l,(nextM (nowL l)).e,0,[],[],false⟩:=by unfold nextR;rw [if_neg (by omega),if_pos (by omega)])
   |(have hN:nextR tag l 0=⟨l,5,0,[],[],false⟩:=by unfold nextR;rw [if_neg (by omega),if_neg (by omega),if_pos (by omega)])
  rw [hN]
  refine end_H (.inl rfl) rfl (res_3 rfl (javA 2) javt javt) ?_
  exact CEnt.tup3 (CEnt.agg2 cZ cN) cN cZ
 refine jU 1216 ?_;refine jqsp 56 (fun g192=>?_) fun g192=>?_
 rotate_left
 ·refine jU 16300515004444 ?_
  refine jqm (jmcH 0 (now_ac n l 0 hl) ?_)
  rintro _ _ ⟨rfl,rfl⟩
  refine ⟨_,_,rfl,cZ,?_⟩
  refine jU 751 ?_;refine code_openR 0 rfl fun gl2=>?_;refine jcdB 12 (.rd 0 (.rd 1 (.rd 2 (.rd 3 (.rd 4 (.rd 5 (.rd 6 (.rd 7 (.rd 8 (.rd 9 (.rd 10 (.rd 11 .done)))))))))))) ?_;refine jU 703000020000100009000005000070100009000005000070 ?_;refine jyq (jri (i:=(l.length-1)) (hz:=by omega)) ?_;refine jyd ?_
  show ASeq _ _ _ _ _ _
  refine jqm (jmstF 1 (lbF (l.set (l.length-1) (nextM (nowL l)).rest)) ?_ ?_)
  ·exact (fun j hj=>lb_set hj)
  refine jU 785 ?_;refine jE (closeR n 0 (l.set (l.length-1) (nextM (nowL l)).rest) 0 4 rfl rfl rfl (cO (by simp)) cZ (by simp) (fun _ _=>cZ)) ?_
  dsimp only [List.set_cons_zero,List.set_cons_succ,List.cons_append,List.nil_append,List.length_cons,List.length_nil,Nat.zero_add,Nat.reduceAdd]
  refine jE (freeze 3 rfl) ?_;refine jE (thawP 7 (m:=2) rfl rfl (by decide)) ?_;refine jcdZ (.rd 0 (.rd 1 (.rd 2 (.rd 3 (.rd 4 (.rd 5 (.rd 6 (.rd 7 (.one 8 (.rd 9 (.rd 10 .done))))))))))) ?_;refine jzq (jrdrA 2) ?_;refine jU 400000400000 ?_;refine jzq jrl ?_;refine jzq jrm ?_;refine jzq jrl ?_;refine jzq jra ?_;refine jzq jrst ?_
  refine jzm (jmst 2 ?_)
  refine jU 3000500070008700000400000400000 ?_
  have hN:nextR tag l 0=⟨l.set (l.length-1) (nextM (nowL l)).rest,0,(nextM (nowL l)).tag,(nextM (nowL l)).body,(nowL l).take ((nowL l).length-(nextM (nowL l)).rest.length),true⟩:=by unfold nextR;rw [if_neg (by omega),if_neg (by omega),if_neg (by omega)]
  rw [hN]
  refine end_H (.inl rfl) rfl (res_3 rfl (javA 2) javt javt) ?_
  exact CEnt.tup3 (CEnt.agg2 cZ cZ) (CEnt.bs (by congr 1;omega)) cZ
 refine jU 518000215090 ?_;refine jcc (fun h192=>?_) fun h192=>?_
 ·refine code_openR 0 rfl fun gl2=>?_;refine jU 1200 ?_;refine jq (jrde 4) ?_;refine jU 10040 ?_
  refine jqm (jmstF 1 (fl [.os 4 gl2 0 l.length 1,.err 5]) ?_ ?_)
  ·exact (fun j hj=>by rcases j with _|_|j <;> exact cZ)
  refine jU 84005 ?_
  first
   | refine jE (closeR n (nextM (nowL l)).e l 0 4 rfl rfl rfl (cO rfl) cZ (Nat.le_refl _) (fun _ _=>cZ)) ?_
   | refine jE (closeR n 5 l 0 4 rfl rfl rfl (cO rfl) cZ (Nat.le_refl _) (fun _ _=>cZ)) ?_
  refine jcr ?_;refine jq (rd_build (n:=2) rfl zr199 pl199 rfl rfl) ?_
  refine jqm (jmst 2 ?_)
  refine jU 7000511 ?_
  first
   |(have hN:nextR tag l 0=⟨l,(nextM (nowL l)).e,0,[],[],false⟩:=by unfold nextR;rw [if_neg (by omega),if_pos (by omega)])
   |(have hN:nextR tag l 0=⟨l,5,0,[],[],false⟩:=by unfold nextR;rw [if_neg (by omega),if_neg (by omega),if_pos (by omega)])
  rw [hN]
  refine end_H (.inl rfl) rfl (res_3 rfl (javA 2) javt javt) ?_
  exact CEnt.tup3 (CEnt.agg2 cZ cN) cN cZ
 refine jU 16 ?_
 refine jqm (jmcH 0 (now_ac n l 0 hl) ?_)
 rintro _ _ ⟨rfl,rfl⟩
 refine ⟨_,_,rfl,cZ,?_⟩
 refine jU 751 ?_;refine code_openR 0 rfl fun gl2=>?_;refine jcdB 12 (.rd 0 (.rd 1 (.rd 2 (.rd 3 (.rd 4 (.rd 5 (.rd 6 (.rd 7 (.rd 8 (.rd 9 (.rd 10 (.rd 11 .done)))))))))))) ?_;refine jU 703000020000100009000005000070100009000005000070 ?_;refine jyq (jri (i:=(l.length-1)) (hz:=by omega)) ?_;refine jyd ?_
 show ASeq _ _ _ _ _ _
 refine jqm (jmstF 1 (lbF (l.set (l.length-1) (nextM (nowL l)).rest)) ?_ ?_)
 ·exact (fun j hj=>lb_set hj)
 refine jU 785 ?_;refine jE (closeR n 0 (l.set (l.length-1) (nextM (nowL l)).rest) 0 4 rfl rfl rfl (cO (by simp)) cZ (by simp) (fun _ _=>cZ)) ?_
 dsimp only [List.set_cons_zero,List.set_cons_succ,List.cons_append,List.nil_append,List.length_cons,List.length_nil,Nat.zero_add,Nat.reduceAdd]
 refine jE (freeze 3 rfl) ?_;refine jE (thawP 7 (m:=2) rfl rfl (by decide)) ?_;refine jcdZ (.rd 0 (.rd 1 (.rd 2 (.rd 3 (.rd 4 (.rd 5 (.rd 6 (.rd 7 (.one 8 (.rd 9 (.rd 10 .done))))))))))) ?_;refine jzq (jrdrA 2) ?_;refine jU 400000400000 ?_;refine jzq jrl ?_;refine jzq jrm ?_;refine jzq jrl ?_;refine jzq jra ?_;refine jzq jrst ?_
 refine jzm (jmst 2 ?_)
 refine jU 3000500070008700000400000400000 ?_
 have hN:nextR tag l 0=⟨l.set (l.length-1) (nextM (nowL l)).rest,0,(nextM (nowL l)).tag,(nextM (nowL l)).body,(nowL l).take ((nowL l).length-(nextM (nowL l)).rest.length),true⟩:=by unfold nextR;rw [if_neg (by omega),if_neg (by omega),if_neg (by omega)]
 rw [hN]
 refine end_H (.inl rfl) rfl (res_3 rfl (javA 2) javt javt) ?_
 exact CEnt.tup3 (CEnt.agg2 cZ cZ) (CEnt.bs (by congr 1;omega)) cZ
end
section
variable {gs:List Nat} [Ok9 gs]

def enterR (tag:Int) (l:List (List UInt8)) (k:Nat):NR :=
 nextR tag l (if moreM l k=true∧madeM tag=false then 5 else k)
def enterL (tag:Int) (l:List (List UInt8)) (k:Nat):List (List UInt8):=if (enterR tag l k).is=true then (enterR tag l k).l++[(enterR tag l k).body] else (enterR tag l k).l
theorem enter_ac (n:Nat) (l:List (List UInt8)) (k:Nat) (tag:Int) (hl:0<l.length∧l.length≤1000000) (hb:(nowL l).length≤10000000):AC gs Tryz.prog 64 [rdO n l k] [.op 0 (some n) 0,.c (.int .i64 tag)]
  (fun r H'=>r=.c (.bool (enterR tag l k).is)∧H'=[rdO n (enterL tag l k) (enterR tag l k).k]):=by
 have hnl:∀ k,0<(nextR tag l k).l.length∧(nextR tag l k).l.length≤1000000:=fun k=>by
  unfold nextR
  split
  ·exact hl
  ·split
   ·exact hl
   ·split
    ·exact hl
    ·simp only [List.length_set];exact hl
 refine ac_of 48 Tryz.func64 rfl rfl rfl (fun al w0 F0 St0=>?_)
 refine jU 7516 ?_;refine code_openR 0 rfl fun gl=>?_;refine jU 501004016 ?_;refine seq_ent (closeR n k l 0 1 rfl rfl rfl (cO rfl) cZ (Nat.le_refl _) (fun _ _=>cZ)) ?_;refine jU 1500000 ?_;refine jqsp 13 (fun g204=>?_) fun g204=>?_
 rotate_left
 ·refine jU 810300550044415004444 ?_
  first
   |(refine jE (closeR n 5 l 0 2 rfl rfl rfl (cO rfl) cZ (Nat.le_refl _) (fun _ _=>cZ)) ?_;refine jE (pick_ent (H':=[rdO n l 5]) [0] (by decide) rfl) ?_;have hE:enterR tag l k=nextR tag l 5:=by unfold enterR;rw [if_pos (by simp_all [moreM,madeM])])
   |(refine jE (pick_ent (H':=[rdO n l k]) [0] (by decide) rfl) ?_;have hE:enterR tag l k=nextR tag l k:=by unfold enterR;rw [if_neg (by simp_all [moreM,madeM])])
  refine jU 116 ?_
  refine jqm (jmcH 0 (nextR_ac n l _ tag hl hb) ?_)
  rintro _ _ ⟨rfl,rfl⟩
  refine ⟨_,_,rfl,cZ,?_⟩
  refine jU 9009009001 ?_
  refine jqe (jeal (n:=2) zr199 rfl fun p2=>?_)
  refine jqm (jmst 2 ?_)
  refine jU 7511 ?_
  rw [← hE]
  have hel:0<(enterR tag l k).l.length∧(enterR tag l k).l.length≤1000000:=by rw [hE];exact hnl _
  refine jU 516 ?_;refine jcc (fun h208=>?_) fun h208=>?_
  rotate_left
  ·refine jU 810 ?_
   first
    |(refine jE (closeR n (enterR tag l k).k ((enterR tag l k).l++[(enterR tag l k).body]) 0 2 rfl rfl rfl (cO (by simp)) cZ (by simp) (fun _ _=>cZ)) ?_;have hL:enterL tag l k=(enterR tag l k).l++[(enterR tag l k).body]:=by unfold enterL;rw [if_pos (by simpa using h208)])
    | have hL:enterL tag l k=(enterR tag l k).l:=by unfold enterL;rw [if_neg (by simpa using h208)]
   refine jU 70005116 ?_
   rw [hL]
   exact end_H (.inl rfl) rfl (res_1 rfl (arv_tmp rfl)) cZ
  refine jE (freeze 1 rfl) ?_;refine jE (thawP 5 (m:=2) rfl rfl (by decide)) ?_
  dsimp only [List.set_cons_zero,List.set_cons_succ,List.cons_append,List.nil_append,List.length_cons,List.length_nil,Nat.zero_add,Nat.reduceAdd]
  refine code_openR 0 rfl fun gl3=>?_;refine jcdZ (.rd 0 (.rd 1 (.rd 2 (.rd 3 (.rd 4 (.rd 5 (.rd 6 (.one 7 (.one 8 (.rd 9 (.rd 10 (.one 11 .done)))))))))))) ?_;refine jU 6000000050000000100000009000000400000400000 ?_;refine jzq jrdr ?_
  refine jze (jebl 1 1 zr22 fun p3=>?_)
  refine jzm (m_appendC (rowC_lb) (l2:=[(enterR tag l k).body]) rfl rfl rfl rfl (by omega) (fun _ _=>cZ) (src_os rfl (.inl rfl) (by decide)) rfl (fun j hj=>by rcases j with _|j <;> first|exact cZ|(exfalso;simp at hj <;> omega)) Tryz.underlying186 nu186 sz22 zr22 by22 rfl (by (simp;omega)) (by (simp;omega)) (leaf_flk rfl rfl) rfl rfl rfl (fun p4=>?_))
  refine jU 100000009000000 ?_
  refine jzm (jmst 1 ?_)
  refine jU 8700000 ?_
  first
   |(refine jE (closeR n (enterR tag l k).k ((enterR tag l k).l++[(enterR tag l k).body]) 0 2 rfl rfl rfl (cO (by simp)) cZ (by simp) (fun _ _=>cZ)) ?_;have hL:enterL tag l k=(enterR tag l k).l++[(enterR tag l k).body]:=by unfold enterL;rw [if_pos (by simpa using h208)])
   | have hL:enterL tag l k=(enterR tag l k).l:=by unfold enterL;rw [if_neg (by simpa using h208)]
  refine jU 70005116 ?_
  rw [hL]
  exact end_H (.inl rfl) rfl (res_1 rfl (arv_tmp rfl)) cZ
 refine jU 1 ?_
 refine jqm (jmcH 0 (now_ac n l k hl) ?_)
 rintro _ _ ⟨rfl,rfl⟩
 refine ⟨_,_,rfl,cZ,?_⟩
 refine jU 1800023 ?_;refine jqsp 19 (fun g204_2=>?_) fun g204_2=>?_
 rotate_left
 ·refine jU 8103005500444 ?_
  first
   |(refine jE (closeR n 5 l 0 2 rfl rfl rfl (cO rfl) cZ (Nat.le_refl _) (fun _ _=>cZ)) ?_;refine jE (pick_ent (H':=[rdO n l 5]) [0] (by decide) rfl) ?_;have hE:enterR tag l k=nextR tag l 5:=by unfold enterR;rw [if_pos (by simp_all [moreM,madeM])])
   |(refine jE (pick_ent (H':=[rdO n l k]) [0] (by decide) rfl) ?_;have hE:enterR tag l k=nextR tag l k:=by unfold enterR;rw [if_neg (by simp_all [moreM,madeM])])
  refine jU 116 ?_
  refine jqm (jmcH 0 (nextR_ac n l _ tag hl hb) ?_)
  rintro _ _ ⟨rfl,rfl⟩
  refine ⟨_,_,rfl,cZ,?_⟩
  refine jU 9009009001 ?_
  refine jqe (jeal (n:=2) zr199 rfl fun p3=>?_)
  refine jqm (jmst 2 ?_)
  refine jU 7511 ?_
  rw [← hE]
  have hel:0<(enterR tag l k).l.length∧(enterR tag l k).l.length≤1000000:=by rw [hE];exact hnl _
  refine jU 516 ?_;refine jcc (fun h208=>?_) fun h208=>?_
  rotate_left
  ·refine jU 810 ?_
   first
    |(refine jE (closeR n (enterR tag l k).k ((enterR tag l k).l++[(enterR tag l k).body]) 0 2 rfl rfl rfl (cO (by simp)) cZ (by simp) (fun _ _=>cZ)) ?_;have hL:enterL tag l k=(enterR tag l k).l++[(enterR tag l k).body]:=by unfold enterL;rw [if_pos (by simpa using h208)])
    | have hL:enterL tag l k=(enterR tag l k).l:=by unfold enterL;rw [if_neg (by simpa using h208)]
   refine jU 70005116 ?_
   rw [hL]
   exact end_H (.inl rfl) rfl (res_1 rfl (arv_tmp rfl)) cZ
  refine jE (freeze 1 rfl) ?_;refine jE (thawP 5 (m:=2) rfl rfl (by decide)) ?_
  dsimp only [List.set_cons_zero,List.set_cons_succ,List.cons_append,List.nil_append,List.length_cons,List.length_nil,Nat.zero_add,Nat.reduceAdd]
  refine code_openR 0 rfl fun gl3=>?_;refine jcdZ (.rd 0 (.rd 1 (.rd 2 (.rd 3 (.rd 4 (.rd 5 (.rd 6 (.one 7 (.one 8 (.rd 9 (.rd 10 (.one 11 .done)))))))))))) ?_;refine jU 6000000050000000100000009000000400000400000 ?_;refine jzq jrdr ?_
  refine jze (jebl 1 1 zr22 fun p4=>?_)
  refine jzm (m_appendC (rowC_lb) (l2:=[(enterR tag l k).body]) rfl rfl rfl rfl (by omega) (fun _ _=>cZ) (src_os rfl (.inl rfl) (by decide)) rfl (fun j hj=>by rcases j with _|j <;> first|exact cZ|(exfalso;simp at hj <;> omega)) Tryz.underlying186 nu186 sz22 zr22 by22 rfl (by (simp;omega)) (by (simp;omega)) (leaf_flk rfl rfl) rfl rfl rfl (fun p5=>?_))
  refine jU 100000009000000 ?_
  refine jzm (jmst 1 ?_)
  refine jU 8700000 ?_
  first
   |(refine jE (closeR n (enterR tag l k).k ((enterR tag l k).l++[(enterR tag l k).body]) 0 2 rfl rfl rfl (cO (by simp)) cZ (by simp) (fun _ _=>cZ)) ?_;have hL:enterL tag l k=(enterR tag l k).l++[(enterR tag l k).body]:=by unfold enterL;rw [if_pos (by simpa using h208)])
   | have hL:enterL tag l k=(enterR tag l k).l:=by unfold enterL;rw [if_neg (by simpa using h208)]
  refine jU 70005116 ?_
  rw [hL]
  exact end_H (.inl rfl) rfl (res_1 rfl (arv_tmp rfl)) cZ
 refine jU 1 ?_
 refine jqe (jecP (made_ac _) ?_)
 refine jU 5800030 ?_;refine jcc (fun h204=>?_) fun h204=>?_
 rotate_left
 ·refine jU 810 ?_
  first
   |(refine jE (closeR n 5 l 0 2 rfl rfl rfl (cO rfl) cZ (Nat.le_refl _) (fun _ _=>cZ)) ?_;refine jE (pick_ent (H':=[rdO n l 5]) [0] (by decide) rfl) ?_;have hE:enterR tag l k=nextR tag l 5:=by unfold enterR;rw [if_pos (by simp_all [moreM,madeM])])
   |(refine jE (pick_ent (H':=[rdO n l k]) [0] (by decide) rfl) ?_;have hE:enterR tag l k=nextR tag l k:=by unfold enterR;rw [if_neg (by simp_all [moreM,madeM])])
  refine jU 116 ?_
  refine jqm (jmcH 0 (nextR_ac n l _ tag hl hb) ?_)
  rintro _ _ ⟨rfl,rfl⟩
  refine ⟨_,_,rfl,cZ,?_⟩
  refine jU 9009009001 ?_
  refine jqe (jeal (n:=2) zr199 rfl fun p3=>?_)
  refine jqm (jmst 2 ?_)
  refine jU 7511 ?_
  rw [← hE]
  have hel:0<(enterR tag l k).l.length∧(enterR tag l k).l.length≤1000000:=by rw [hE];exact hnl _
  refine jU 516 ?_;refine jcc (fun h208=>?_) fun h208=>?_
  rotate_left
  ·refine jU 810 ?_
   first
    |(refine jE (closeR n (enterR tag l k).k ((enterR tag l k).l++[(enterR tag l k).body]) 0 2 rfl rfl rfl (cO (by simp)) cZ (by simp) (fun _ _=>cZ)) ?_;have hL:enterL tag l k=(enterR tag l k).l++[(enterR tag l k).body]:=by unfold enterL;rw [if_pos (by simpa using h208)])
    | have hL:enterL tag l k=(enterR tag l k).l:=by unfold enterL;rw [if_neg (by simpa using h208)]
   refine jU 70005116 ?_
   rw [hL]
   exact end_H (.inl rfl) rfl (res_1 rfl (arv_tmp rfl)) cZ
  refine jE (freeze 1 rfl) ?_;refine jE (thawP 5 (m:=2) rfl rfl (by decide)) ?_
  dsimp only [List.set_cons_zero,List.set_cons_succ,List.cons_append,List.nil_append,List.length_cons,List.length_nil,Nat.zero_add,Nat.reduceAdd]
  refine code_openR 0 rfl fun gl3=>?_;refine jcdZ (.rd 0 (.rd 1 (.rd 2 (.rd 3 (.rd 4 (.rd 5 (.rd 6 (.one 7 (.one 8 (.rd 9 (.rd 10 (.one 11 .done)))))))))))) ?_;refine jU 6000000050000000100000009000000400000400000 ?_;refine jzq jrdr ?_
  refine jze (jebl 1 1 zr22 fun p4=>?_)
  refine jzm (m_appendC (rowC_lb) (l2:=[(enterR tag l k).body]) rfl rfl rfl rfl (by omega) (fun _ _=>cZ) (src_os rfl (.inl rfl) (by decide)) rfl (fun j hj=>by rcases j with _|j <;> first|exact cZ|(exfalso;simp at hj <;> omega)) Tryz.underlying186 nu186 sz22 zr22 by22 rfl (by (simp;omega)) (by (simp;omega)) (leaf_flk rfl rfl) rfl rfl rfl (fun p5=>?_))
  refine jU 100000009000000 ?_
  refine jzm (jmst 1 ?_)
  refine jU 8700000 ?_
  first
   |(refine jE (closeR n (enterR tag l k).k ((enterR tag l k).l++[(enterR tag l k).body]) 0 2 rfl rfl rfl (cO (by simp)) cZ (by simp) (fun _ _=>cZ)) ?_;have hL:enterL tag l k=(enterR tag l k).l++[(enterR tag l k).body]:=by unfold enterL;rw [if_pos (by simpa using h208)])
   | have hL:enterL tag l k=(enterR tag l k).l:=by unfold enterL;rw [if_neg (by simpa using h208)]
  refine jU 70005116 ?_
  rw [hL]
  exact end_H (.inl rfl) rfl (res_1 rfl (arv_tmp rfl)) cZ
 refine code_openR 0 rfl fun gl2=>?_;refine jU 1200 ?_;refine jq (jrde 4) ?_;refine jU 10040 ?_
 refine jqm (jmstF 1 (fl [.os 2 gl2 0 l.length 1,.err 5]) ?_ ?_)
 ·exact (fun j hj=>by rcases j with _|_|j <;> exact cZ)
 refine jU 85 ?_
 first
  |(refine jE (closeR n 5 l 0 2 rfl rfl rfl (cO rfl) cZ (Nat.le_refl _) (fun _ _=>cZ)) ?_;refine jE (pick_ent (H':=[rdO n l 5]) [0] (by decide) rfl) ?_;have hE:enterR tag l k=nextR tag l 5:=by unfold enterR;rw [if_pos (by simp_all [moreM,madeM])])
  |(refine jE (pick_ent (H':=[rdO n l k]) [0] (by decide) rfl) ?_;have hE:enterR tag l k=nextR tag l k:=by unfold enterR;rw [if_neg (by simp_all [moreM,madeM])])
 refine jU 116 ?_
 refine jqm (jmcH 0 (nextR_ac n l _ tag hl hb) ?_)
 rintro _ _ ⟨rfl,rfl⟩
 refine ⟨_,_,rfl,cZ,?_⟩
 refine jU 9009009001 ?_
 refine jqe (jeal (n:=2) zr199 rfl fun p3=>?_)
 refine jqm (jmst 2 ?_)
 refine jU 7511 ?_
 rw [← hE]
 have hel:0<(enterR tag l k).l.length∧(enterR tag l k).l.length≤1000000:=by rw [hE];exact hnl _
 refine jU 516 ?_;refine jcc (fun h208=>?_) fun h208=>?_
 rotate_left
 ·refine jU 810 ?_
  first
   |(refine jE (closeR n (enterR tag l k).k ((enterR tag l k).l++[(enterR tag l k).body]) 0 2 rfl rfl rfl (cO (by simp)) cZ (by simp) (fun _ _=>cZ)) ?_;have hL:enterL tag l k=(enterR tag l k).l++[(enterR tag l k).body]:=by unfold enterL;rw [if_pos (by simpa using h208)])
   | have hL:enterL tag l k=(enterR tag l k).l:=by unfold enterL;rw [if_neg (by simpa using h208)]
  refine jU 70005116 ?_
  rw [hL]
  exact end_H (.inl rfl) rfl (res_1 rfl (arv_tmp rfl)) cZ
 refine jE (freeze 1 rfl) ?_;refine jE (thawP 5 (m:=2) rfl rfl (by decide)) ?_
 dsimp only [List.set_cons_zero,List.set_cons_succ,List.cons_append,List.nil_append,List.length_cons,List.length_nil,Nat.zero_add,Nat.reduceAdd]
 refine code_openR 0 rfl fun gl3=>?_;refine jcdZ (.rd 0 (.rd 1 (.rd 2 (.rd 3 (.rd 4 (.rd 5 (.rd 6 (.one 7 (.one 8 (.rd 9 (.rd 10 (.one 11 .done)))))))))))) ?_;refine jU 6000000050000000100000009000000400000400000 ?_;refine jzq jrdr ?_
 refine jze (jebl 1 1 zr22 fun p4=>?_)
 refine jzm (m_appendC (rowC_lb) (l2:=[(enterR tag l k).body]) rfl rfl rfl rfl (by omega) (fun _ _=>cZ) (src_os rfl (.inl rfl) (by decide)) rfl (fun j hj=>by rcases j with _|j <;> first|exact cZ|(exfalso;simp at hj <;> omega)) Tryz.underlying186 nu186 sz22 zr22 by22 rfl (by (simp;omega)) (by (simp;omega)) (leaf_flk rfl rfl) rfl rfl rfl (fun p5=>?_))
 refine jU 100000009000000 ?_
 refine jzm (jmst 1 ?_)
 refine jU 8700000 ?_
 first
  |(refine jE (closeR n (enterR tag l k).k ((enterR tag l k).l++[(enterR tag l k).body]) 0 2 rfl rfl rfl (cO (by simp)) cZ (by simp) (fun _ _=>cZ)) ?_;have hL:enterL tag l k=(enterR tag l k).l++[(enterR tag l k).body]:=by unfold enterL;rw [if_pos (by simpa using h208)])
  | have hL:enterL tag l k=(enterR tag l k).l:=by unfold enterL;rw [if_neg (by simpa using h208)]
 refine jU 70005116 ?_
 rw [hL]
 exact end_H (.inl rfl) rfl (res_1 rfl (arv_tmp rfl)) cZ
def leaveK (l:List (List UInt8)) (k:Nat):Nat:=if k≠0 then k else if l.length=1 then 24 else if 0<(nowL l).length then 4 else 0
def leaveL (l:List (List UInt8)) (k:Nat):List (List UInt8):=if leaveK l k=0 then l.take (l.length-1) else l
theorem lbF_take {l:List (List UInt8)} {m j:Nat} (h:j<m):CEnt (lbF l j) (lbF (l.take m) j):=by
 refine CEnt.of_eq ?_
 simp [lbF,List.getD_eq_getElem?_getD,h]
theorem leave_ac (n:Nat) (l:List (List UInt8)) (k:Nat) (hl:0<l.length∧l.length≤1000000):AC gs Tryz.prog 67 [rdO n l k] [.op 0 (some n) 0]
  (fun r H'=>r=.c (.tuple #[])∧H'=[rdO n (leaveL l k) (leaveK l k)]):=by
 have stay:∀ {e},leaveK l k=e→e≠0→leaveL l k=l:=fun h h0=>by unfold leaveL;rw [h,if_neg h0]
 refine ac_of 45 Tryz.func67 rfl rfl rfl (fun al w0 F0 St0=>?_)
 refine code_openR 0 rfl fun gl=>?_;refine jU 5150000050100401620519350904016 ?_;refine jcc (fun h218=>?_) fun h218=>?_
 ·refine jU 40010 ?_
  have e:leaveK l k=k:=by unfold leaveK;rw [if_pos (by omega)]
  rw [stay e (by omega),e]
  exact end_pack (gd:=fun z:Nat×Option Nat=>z.1) (E:=rdE l k) (.inr rfl) _ (n,gl) [0,1] (by decide) rfl (res_0 rfl) ⟨rfl,rfl⟩
 refine jU 51216 ?_;refine jcc (fun h219=>?_) fun h219=>?_
 ·refine jU 1200 ?_;refine jq (jrde 23) ?_;refine jU 10040 ?_
  refine jqm (jmstF 1 (fl [.os 1 gl 0 l.length 1,.err 24]) ?_ ?_)
  ·exact (fun j hj=>by rcases j with _|_|j <;> exact cZ)
  refine jU 4005 ?_
  have e:leaveK l k=24:=by unfold leaveK;rw [if_neg (by omega),if_pos (by omega)]
  rw [stay e (by omega),e]
  exact end_pack (gd:=fun z:Nat×Option Nat=>z.1) (E:=rdE l 24) (.inr rfl) _ (n,gl) [0,1] (by decide) rfl (res_0 rfl) ⟨rfl,rfl⟩
 refine jU 150904016 ?_;refine jq (jri (i:=(l.length-1)) (hz:=by omega)) ?_;refine jU 512350 ?_;refine jcc (fun h221=>?_) fun h221=>?_
 ·refine jU 1200 ?_;refine jq (jrde 3) ?_;refine jU 10040 ?_
  refine jqm (jmstF 1 (fl [.os 1 gl 0 l.length 1,.err 4]) ?_ ?_)
  ·exact (fun j hj=>by rcases j with _|_|j <;> exact cZ)
  refine jU 4005 ?_
  have e:leaveK l k=4:=by unfold leaveK;rw [if_neg (by omega),if_neg (by omega),if_pos (by unfold nowL;omega)]
  rw [stay e (by omega),e]
  exact end_pack (gd:=fun z:Nat×Option Nat=>z.1) (E:=rdE l 4) (.inr rfl) _ (n,gl) [0,1] (by decide) rfl (res_0 rfl) ⟨rfl,rfl⟩
 refine jU 150904011200 ?_;refine jq jrso ?_;refine jU 9040 ?_
 have hk0:k=0:=by omega
 refine seq_ent (weakH 1 (l.length-1) (lbF (l.take (l.length-1))) rfl (by omega) (fun j hj=>lbF_take hj)) ?_
 refine jqm (jmstF 1 (fl [.os 1 gl 0 (l.length-1) 1,.err 0]) ?_ ?_)
 ·exact (fun j hj=>by rcases j with _|_|j <;> first|exact cZ|exact cO (by omega)|exact CEnt.err hk0)
 refine jU 4005 ?_
 have e:leaveK l k=0:=by unfold leaveK;rw [if_neg (by omega),if_neg (by omega),if_neg (by unfold nowL;omega)]
 have e2:leaveL l k=l.take (l.length-1):=by unfold leaveL;rw [if_pos e]
 have e3:(l.take (l.length-1)).length=l.length-1:=by rw [List.length_take];omega
 rw [e2,e]
 exact end_pack (gd:=fun z:Nat×Option Nat=>z.1) (E:=rdE (l.take (l.length-1)) 0) (.inr rfl) _ (n,gl) [0,1] (by decide) (by unfold rdE;rw [e3];rfl) (res_0 rfl) ⟨rfl,rfl⟩
def endK (l:List (List UInt8)) (k:Nat):Nat:=if k≠0 then k else if 1<l.length then 24 else if 0<(l.getD 0 []).length then 4 else 0
theorem end08_ac (n:Nat) (l:List (List UInt8)) (k:Nat) (hl:0<l.length∧l.length≤1000000):AC gs Tryz.prog 68 [rdO n l k] [.op 0 (some n) 0]
  (fun r H'=>r=.err (endK l k)∧H'=[rdO n l k]):=by
 refine ac_of 31 Tryz.func68 rfl rfl rfl (fun al w0 F0 St0=>?_)
 refine jU 207516 ?_;refine code_openR 0 rfl fun gl=>?_;refine jU 51500000501004016 ?_;refine jcc (fun h292=>?_) fun h292=>?_
 ·refine jU 30005000700051501004016 ?_
  exact end_packV (gd:=fun z:Nat×Option Nat=>z.1) (E:=rdE l k) (.inl rfl) (n,gl) [0,1] (by decide) rfl (res_1 rfl (arv_tmp rfl)) (CEnt.err (by unfold endK;rw [if_pos (by omega)]))
 refine jU 512350904016 ?_;refine jcc (fun h294=>?_) fun h294=>?_
 ·refine jcr ?_;refine jq (jrde 23) ?_;refine jU 30005000700051 ?_
  exact end_packV (gd:=fun z:Nat×Option Nat=>z.1) (E:=rdE l k) (.inl rfl) (n,gl) [0,1] (by decide) rfl (res_1 rfl (arv_tmp rfl)) (CEnt.err (by unfold endK;rw [if_neg (by omega),if_pos (by omega)]))
 refine jU 512350200000050904016 ?_;refine jcc (fun h296=>?_) fun h296=>?_
 ·refine jcr ?_;refine jq (jrde 3) ?_;refine jU 30005000700051 ?_
  exact end_packV (gd:=fun z:Nat×Option Nat=>z.1) (E:=rdE l k) (.inl rfl) (n,gl) [0,1] (by decide) rfl (res_1 rfl (arv_tmp rfl)) (CEnt.err (by unfold endK;rw [if_neg (by omega),if_neg (by omega),if_pos (by omega)]))
 refine jU 7000516840010 ?_
 have e:endK l k=0:=by unfold endK;rw [if_neg (by omega),if_neg (by omega),if_neg (by omega)]
 rw [e]
 exact end_packV (gd:=fun z:Nat×Option Nat=>z.1) (E:=rdE l k) (.inl rfl) (n,gl) [0,1] (by decide) rfl (res_1 rfl (arv_tmp rfl)) CEnt.nil
theorem raw08_ac (n:Nat) (l:List (List UInt8)) (k:Nat) (hl:0<l.length∧l.length≤1000000) (hb:(nowL l).length≤10000000):AC gs Tryz.prog 65 [rdO n l k] [.op 0 (some n) 0]
  (fun r H'=>r=bsC (nextR 0 l k).raw∧H'=[rdO n (nextR 0 l k).l (nextR 0 l k).k]):=by
 have hr:(nextR 0 l k).raw.length≤100000000000:=by
  unfold nextR
  split
  ·simp
  ·split
   ·simp
   ·split
    ·simp
    ·simp only [List.length_take];omega
 refine ac_of 14 Tryz.func65 rfl rfl rfl (fun al w0 F0 St0=>?_)
 refine jU 16516 ?_
 refine jqm (jmcH 0 (nextR_ac n l k 0 hl hb) ?_)
 rintro _ _ ⟨rfl,rfl⟩
 refine ⟨_,_,rfl,cZ,?_⟩
 refine jU 9009009001 ?_
 refine jqe (jeal (n:=2) zr199 rfl fun p2=>?_)
 refine jqm (jmst 2 ?_)
 refine jU 16511 ?_
 refine jqe (jecP (clone8_ac (nextR 0 l k).raw hr) ?_)
 refine jU 700051 ?_
 exact end_H (.inl rfl) rfl (res_1 rfl (arv_tmp rfl)) cZ
end
section
variable {gs:List Nat} [Ok9 gs]

theorem nextR_is {tag:Int} {l:List (List UInt8)} {k:Nat} (h:(nextR tag l k).is=true):(nextR tag l k).k=0∧(nextR tag l k).body.length≤65530:=by
 have hb:=nextM_bd (nowL l)
 unfold nextR at h ⊢
 split
 ·rename_i h1;rw [if_pos h1] at h;cases h
 ·rename_i h1;rw [if_neg h1] at h
  split
  ·rename_i h2;rw [if_pos h2] at h;cases h
  ·rename_i h2;rw [if_neg h2] at h
   split
   ·rename_i h3;rw [if_pos h3] at h;cases h
   ·exact ⟨rfl,hb.2.2.1⟩
def valK (tag:Int) (l:List (List UInt8)) (k:Nat) (e:List UInt8→Nat):Nat:=if (nextR tag l k).is=true then e (nextR tag l k).body else (nextR tag l k).k
theorem nextR_len {tag:Int} {l:List (List UInt8)} {k:Nat}:(nextR tag l k).l.length=l.length:=by
 unfold nextR
 split
 ·rfl
 ·split
  ·rfl
  ·split
   ·rfl
   ·simp
theorem CEnt.fn2' {k:FuncId} {f g:Nat→CV} (h0:CEnt (f 0) (g 0)) (h1:CEnt (f 1) (g 1)):CEnt (.fn k 2 f) (.fn k 2 g):=fun al St w v ⟨cs,k1,k2,k3⟩=>⟨cs,k1,k2,fun i hi=>by
 rcases i with _|_|i
 ·exact h0 _ _ _ _ (k3 0 (by omega))
 ·exact h1 _ _ _ _ (k3 1 (by omega))
 ·omega⟩
theorem int_box {z:Int}:∀ j,j<1→CEnt (fl [CV.c (.int .i64 z)] (0+j)) (CV.c (.int .i64 z)):=fun j hj=>by
 obtain rfl:j=0:=by omega
 exact cZ
def twoF (a b:Int):Nat→CV:=fl [.rp 1 fun _=>.c (.int .i64 a),.rp 1 fun _=>.c (.int .i64 b)]
end
section
variable {gs:List Nat} [Ok9 gs]

theorem read08_ac (b:List UInt8) (hb:b.length≤10000000):AC gs Tryz.prog 63 [] [bsC b] (fun r H'=>∃ n,r=.op 0 (some n) 0∧H'=[rdO n [b] (depthM b).2]):=by
 refine ac_of 10 Tryz.func63 rfl rfl rfl (fun al w0 F0 St0=>?_)
 refine jU 16516 ?_
 refine jqe (jecP (clone8_ac b (by omega)) ?_)
 refine jqe (jebl 1 1 zr22 fun p1=>?_)
 refine jU 1 ?_
 refine jqe (jecP (check_ac b hb) ?_)
 refine jq (rd_build (n:=2) rfl zr197 pl197 rfl rfl) ?_
 refine jqe (jebx 2 fun p2=>?_)
 refine jU 51 ?_;refine code_knowG (know_op 2 rfl) fun hn=>?_
 obtain ⟨n,rfl⟩:=hn
 refine jE (closeR n (depthM b).2 [b] 1 0 rfl rfl rfl (cO rfl) cZ (Nat.le_refl _) (fun a ha=>by obtain rfl:a=0:=(by simpa using ha);exact cZ)) ?_;refine jU 7000 ?_
 exact end_ownV (.inl rfl) [1] (by decide) rfl (res_1 rfl (arv_tmp rfl)) (cP (j:=0)) ⟨n,rfl,rfl⟩
end
section
variable {gs:List Nat} [Ok9 gs]

theorem valueL_ac {gs:List Nat} [Ok9 gs] {f:FuncId} {m:Nat} {fv:Nat→CV} (hc:calleeB Tryz.prog f=true) (n:Nat) (l:List (List UInt8)) (k:Nat) (tag:Int) (get:List UInt8→(List UInt8)×Nat) (hl:0<l.length∧l.length≤1000000) (hb:(nowL l).length≤10000000) (hp:∀ b:List UInt8,b.length≤65530→ACp gs Tryz.prog f (bsC b::(List.range m).map fv) (.tup 2 (fl [bsC (get b).1,.err (get b).2]))) :
  AC gs Tryz.prog 139 [rdO n l k] [.op 0 (some n) 0,.c (.int .i64 tag),.fn f m fv]
   (fun r H'=>r=bsC (if (nextR tag l k).is=true∧(get (nextR tag l k).body).2=0 then (get (nextR tag l k).body).1 else [])∧H'=[rdO n (nextR tag l k).l (valK tag l k fun b=>(get b).2)]):=by
 have hln:(nextR tag l k).l.length=l.length:=nextR_len
 refine ac_of 38 Tryz.func139 rfl rfl rfl (fun al w0 F0 St0=>?_)
 refine jU 116516516 ?_
 refine jqm (jmcH 0 (nextR_ac n l k tag hl hb) ?_)
 rintro _ _ ⟨rfl,rfl⟩
 refine ⟨_,_,rfl,cZ,?_⟩
 refine jU 9009009001 ?_
 refine jqe (jeal (n:=2) zr199 rfl fun p2=>?_)
 refine jqm (jmst 2 ?_)
 refine jU 530167511 ?_;refine jcc (fun h232=>?_) fun h232=>?_
 ·refine jU 300070005116 ?_
  rw [if_neg (by simp_all)]
  have e:(valK tag l k fun b=>(get b).2)=(nextR tag l k).k:=by unfold valK;rw [if_neg (by simpa using h232)]
  rw [e]
  exact end_H (.inl rfl) rfl (res_1 rfl (arv_tmp rfl)) (by exact cN)
 refine jU 810 ?_
 have his:=nextR_is (by simpa using h232)
 refine jU 5010016 ?_
 refine jqe (e_callV rfl rfl (by assumption) (hp (nextR tag l k).body his.2) (entL_fn cZ _) rfl rfl ?_)
 rintro _ _ ⟨rfl,rfl⟩
 refine jU 55000001675119009001 ?_;refine jcc (fun h236=>?_) fun h236=>?_
 rotate_left
 ·refine jU 70005116810 ?_
  have h0:(get (nextR tag l k).body).2=0:=by omega
  rw [if_pos ⟨by simpa using h232,h0⟩]
  have e:(valK tag l k fun b=>(get b).2)=(nextR tag l k).k:=by unfold valK;rw [if_pos (by simpa using h232),his.1];exact h0
  rw [e]
  exact end_H (.inl rfl) rfl (res_1 rfl (arv_tmp rfl)) (by exact cZ)
 refine code_openR 0 rfl fun gl=>?_;refine jU 10040116 ?_
 refine jqm (jmst 1 ?_)
 refine jU 5 ?_;refine jE (closeR n (get (nextR tag l k).body).2 (nextR tag l k).l 0 2 rfl rfl rfl (cO rfl) cZ (Nat.le_refl _) (fun _ _=>cZ)) ?_;refine jU 300070005116 ?_
 rw [if_neg (by omega)]
 have e:(valK tag l k fun b=>(get b).2)=(get (nextR tag l k).body).2:=by unfold valK;rw [if_pos (by simpa using h232)]
 rw [e]
 exact end_H (.inl rfl) rfl (res_1 rfl (arv_tmp rfl)) (by exact cN)
end
section
def ssF (ls:List (List UInt8)) (j:Nat):CV:=strC (ls.getD j [])
def ssC (ls:List (List UInt8)):CV:=.rs 1 ls.length fun i _=>strC (ls.getD i [])
end
section
variable {gs:List Nat} [Ok2 gs]

def inR (n:Int):Bool:=decide (0≤n) && decide (n≤2147483647)
end
section
variable {gs:List Nat} [Ok9 gs]

def runsF (f:FuncId) (g:Option Nat):CV:=.fn f 1 (fl [.op 0 g 0])
end
section
variable {gs:List Nat} [Ok9 gs]

section
variable {b:List UInt8} {k:Nat} {X:List Int}
end
end
section
variable {gs:List Nat} [Ok9 gs]
open Go.RowKit Cal
set_option linter.unusedVariables false
end
section
open Go.RowKit Cal
def dg (b:List UInt8) (i:Nat):Int:=((b.getD i 0).toNat:Int)-48
def isDg (b:List UInt8) (i:Nat):Prop:=48≤((b.getD i 0).toNat:Int)∧((b.getD i 0).toNat:Int)≤57
instance (b:List UInt8) (i:Nat):Decidable (isDg b i):=by unfold isDg;infer_instance
def two (b:List UInt8) (j:Nat):Int:=10 * dg b (2 * j)+dg b (2 * j+1)
def getD6 (b:List UInt8):D6:=⟨100 * two b 0+two b 1,two b 2,two b 3,two b 4,two b 5,two b 6⟩
def formP (b:List UInt8):Prop:=b.length=15∧((b.getD 14 0).toNat:Int)=90∧∀ i,i<14→isDg b i
instance (b:List UInt8):Decidable (formP b):=by unfold formP;infer_instance
def getE (b:List UInt8):Nat:=if formP b then (if RightP (getD6 b) then 0 else 1) else 4
def getV (b:List UInt8):Int:=if formP b∧RightP (getD6 b) then secM (getD6 b) else 0

theorem body_dg {x:D6} (h:RightP x):(∀ i,i<14→isDg (bodyL x) i)∧getD6 (bodyL x)=x:=by
 obtain ⟨q1,q2,q3,q4,q5,q6,q7,q8,q9,q10⟩:=id h
 have qm:=days_pos q3 q4
 have qd:=days_le x.y x.m
 have q:∀ n p:Int,0≤n→1≤p→((figc n p).toNat:Int)=48+n / p % 10:=fun n p hn hp=>figc_nat (Int.ediv_nonneg hn (by omega))
 have e:∀ i,i<14→∃ n p:Int,(bodyL x).getD i 0=figc n p∧0≤n∧1≤p:=by
  intro i hi
  rcases i with _|_|_|_|_|_|_|_|_|_|_|_|_|_|i
  ·exact ⟨x.y,1000,rfl,by omega,by omega⟩
  ·exact ⟨x.y,100,rfl,by omega,by omega⟩
  ·exact ⟨x.y,10,rfl,by omega,by omega⟩
  ·exact ⟨x.y,1,rfl,by omega,by omega⟩
  ·exact ⟨x.m,10,rfl,by omega,by omega⟩
  ·exact ⟨x.m,1,rfl,by omega,by omega⟩
  ·exact ⟨x.d,10,rfl,by omega,by omega⟩
  ·exact ⟨x.d,1,rfl,by omega,by omega⟩
  ·exact ⟨x.h,10,rfl,by omega,by omega⟩
  ·exact ⟨x.h,1,rfl,by omega,by omega⟩
  ·exact ⟨x.mi,10,rfl,by omega,by omega⟩
  ·exact ⟨x.mi,1,rfl,by omega,by omega⟩
  ·exact ⟨x.s,10,rfl,by omega,by omega⟩
  ·exact ⟨x.s,1,rfl,by omega,by omega⟩
  ·omega
 refine ⟨fun i hi=>?_,?_⟩
 ·obtain ⟨n,p,h1,h2,h3⟩:=e i hi
  unfold isDg
  rw [h1,q n p h2 h3]
  omega
 ·have dd:∀ (i:Nat) (n p:Int),(bodyL x).getD i 0=figc n p→0≤n→1≤p→dg (bodyL x) i=n / p % 10:=fun i n p h1 h2 h3=>by
   unfold dg
   rw [h1,q n p h2 h3]
   omega
  have t0:two (bodyL x) 0=10 * (x.y / 1000 % 10)+x.y / 100 % 10:=by unfold two;rw [dd (2 * 0) x.y 1000 rfl (by omega) (by omega),dd (2 * 0+1) x.y 100 rfl (by omega) (by omega)]
  have t1:two (bodyL x) 1=10 * (x.y / 10 % 10)+x.y / 1 % 10:=by unfold two;rw [dd (2 * 1) x.y 10 rfl (by omega) (by omega),dd (2 * 1+1) x.y 1 rfl (by omega) (by omega)]
  have t2:two (bodyL x) 2=x.m:=by unfold two;rw [dd (2 * 2) x.m 10 rfl (by omega) (by omega),dd (2 * 2+1) x.m 1 rfl (by omega) (by omega)];omega
  have t3:two (bodyL x) 3=x.d:=by unfold two;rw [dd (2 * 3) x.d 10 rfl (by omega) (by omega),dd (2 * 3+1) x.d 1 rfl (by omega) (by omega)];omega
  have t4:two (bodyL x) 4=x.h:=by unfold two;rw [dd (2 * 4) x.h 10 rfl (by omega) (by omega),dd (2 * 4+1) x.h 1 rfl (by omega) (by omega)];omega
  have t5:two (bodyL x) 5=x.mi:=by unfold two;rw [dd (2 * 5) x.mi 10 rfl (by omega) (by omega),dd (2 * 5+1) x.mi 1 rfl (by omega) (by omega)];omega
  have t6:two (bodyL x) 6=x.s:=by unfold two;rw [dd (2 * 6) x.s 10 rfl (by omega) (by omega),dd (2 * 6+1) x.s 1 rfl (by omega) (by omega)];omega
  unfold getD6
  rw [t0,t1,t2,t3,t4,t5,t6]
  have:100 * (10 * (x.y / 1000 % 10)+x.y / 100 % 10)+(10 * (x.y / 10 % 10)+x.y / 1 % 10)=x.y:=by omega
  rw [this]
theorem get_body {x:D6} (h:RightP x):getE (bodyL x)=0∧getV (bodyL x)=secM x:=by
 have hf:formP (bodyL x):=⟨rfl,by show (((90:UInt8).toNat:Nat):Int)=90;rfl,(body_dg h).1⟩
 have hg:=(body_dg h).2
 unfold getE getV
 rw [hg,if_pos hf,if_pos h,if_pos ⟨hf,h⟩]
 exact ⟨rfl,rfl⟩

def texF (x:D6):List Int:=[x.y / 100,x.y % 100,x.m,x.d,x.h,x.mi,x.s]
def texL (x:D6) (i:Nat):List UInt8:=((texF x).take i).flatMap fun n=>[figc n 10,figc n 1]
end
section
variable {gs:List Nat} [Ok9 gs]
open Go.RowKit Cal
set_option linter.unusedVariables false
end
section
variable {gs:List Nat} [Ok9 gs]
open Go.RowKit Cal
set_option linter.unusedVariables false

def twoI (b:List UInt8) (i j:Nat):Int:=if 2 * j+1<i then two b j else if 2 * j<i then dg b (2 * j) else 0
def twF (b:List UInt8) (i j:Nat):CV:=.c (.int .i64 (twoI b i j))

def twL (b:List UInt8) (i:Nat):List Int:=(List.range i).map (two b)
end
section
variable {gs:List Nat} [Ok9 gs]
end
end Am
end Go.Proofs.YthlpfjnkieaeeaaGreatDoor
