/- What the law leans on, part 2: Am2, Am3, Am4, Am5, Am6, Am7 -/
import Derived.Test.YtnijncmifjnifaaGreatDoorM1BundleRead

set_option maxRecDepth 100000
namespace Go.Proofs.YtnijncmifjnifaaGreatDoor
set_option linter.unusedVariables false
namespace Am
open Go.RowKit
section
section
variable {P:Program} {G:Gh} {ops:Array Oper} {o:Oper} {s:AS} {r:List Oper} {K:AS→Prop}

def Wanted (G:Gh) (ops:Array Oper) (o:Oper) (s:AS) (b:Bool):Prop:=∀ St a w,RelSt G St s a w→Region.wanted o (yielded ops a.tmps)=b
theorem wanted_none (h:o.guard=none):Wanted G ops o s true:=fun _ _ _ _=>by simp [Region.wanted,h]
theorem wanted_is {j d:Nat} {b t:Bool} (h:o.guard=some (j,b)) (hd:(ops[j]?).bind (·.dst)=some d) (hN:Nat.blt d G.N=true) (hl:look s.env s.b d=.c (.bool t)) (u:Bool) (hu:(t == b)=u):Wanted G ops o s u:=fun St a w hr=>by
 have hlt:d<a.tmps.size:=by rw [hr.sz];exact Nat.le_of_ble_eq_true hN
 have he:=hr.env d
 rw [hl] at he
 have he:a.tmps.getD d undef=.bool t:=he
 simp_all [Region.wanted,yielded]

def ARd (P:Program) (G:Gh) (o:Oper) (s:AS) (v:CV):Prop:=∀ St a w,RelSt G St s a w→∃ x,(∀ W,KeepS St w W→(execOp a.eval o).run P W=.ok (.value x) W)∧RepC G.al St w v x
def ARdO (P:Program) (G:Gh) (o:Oper) (s:AS) (v:CV):Prop:=∀ St a w,RelSt G St s a w→∃ x,(∀ W,Below w.heap.size w W→(execOp a.eval o).run P W=.ok (.value x) W)∧RepC G.al St w v x
theorem keep_of_below {St:Nat→Prop} {a:Act} {w W:World} (h:RelSt G St s a w) (hW:Below w.heap.size w W):KeepS St w W:=fun b hb=>hW.block b (h.s3 b hb)
theorem ARd.own {v:CV} (h:ARd P G o s v):ARdO P G o s v:=fun St a w hr=>by
 obtain ⟨x,h1,h2⟩:=h St a w hr
 grind [keep_of_below]
def AEx (P:Program) (G:Gh) (o:Oper) (s:AS) (K:AS→Prop):Prop:=∀ St a w,RelSt G St s a w→∀ Q,o.wp P a w (fun a' w'=>Below w.heap.size w w'∧∃ St',(∀ b,St b→St' b)∧∃ s',K s'∧RelSt G St' s' a' w') Q
def AMd (P:Program) (G:Gh) (o:Oper) (s:AS) (K:AS→Prop):Prop:=∀ St a w,RelSt G St s a w→∀ Q,o.wp P a w (fun a' w'=>KeepS St w w'∧∃ St',(∀ b,St b→St' b)∧∃ s',K s'∧RelSt G St' s' a' w') Q

def oneB (G:Gh) (P:Program) (o:Oper) (a:Act) (w:World) (K:Act→World→Prop) (Q:Exit→Act→World→Prop):Prop:=o.wp P a w K Q∨(G.yl=true∧o.wpIn (frd G.rd) 0 P a w K Q)
def wpSeq (G:Gh) (P:Program) (ops:Array Oper) (Q:Exit→Act→World→Prop):List Oper→Act→World→Prop
 | [],a,w=>Q .normal a w
 | o::r,a,w=>if Region.wanted o (yielded ops a.tmps) then oneB G P o a w (wpSeq G P ops Q r) Q else wpSeq G P ops Q r (a.put o.dst undef) w

theorem wpOps_of_seq {Q:Exit→Act→World→Prop} (hy:G.yl=false):∀ (l:List Nat) (a:Act) (w:World),wpSeq G P ops Q (l.filterMap (ops[·]?)) a w→wpOps P ops Q l a w
 | [],_,_,h=>h
 | i::l,a,w,h=>by
  unfold wpOps
  cases hi:ops[i]? with
  | none =>
   simp only [List.filterMap_cons,hi] at h ⊢
   exact wpOps_of_seq hy l a w h
  | some o =>
   simp only [List.filterMap_cons,hi,wpSeq] at h ⊢
   split
   ·rename_i hw
    rw [if_pos hw] at h
    rcases h with h|h
    ·exact .inl (Oper.wp_mono (fun a' w' h'=>wpOps_of_seq hy l a' w' h') h)
    ·rw [hy] at h;cases h.1
   ·rename_i hw
    rw [if_neg hw] at h
    exact wpOps_of_seq hy l _ w h
theorem wpOpsIn_of_seq {Q:Exit→Act→World→Prop} (hd:rdB G.rd ops=true):∀ (l:List Nat) (a:Act) (w:World),wpSeq G P ops Q (l.filterMap (ops[·]?)) a w→wpOpsIn (frd G.rd) 0 P ops Q l a w
 | [],_,_,h=>h
 | i::l,a,w,h=>by
  unfold wpOpsIn
  cases hi:ops[i]? with
  | none =>
   simp only [List.filterMap_cons,hi] at h ⊢
   exact wpOpsIn_of_seq hd l a w h
  | some o =>
   simp only [List.filterMap_cons,hi,wpSeq] at h ⊢
   split
   ·rename_i hw
    rw [if_pos hw] at h
    rcases h with h|h
    ·exact Oper.wp_in (rdB_at hd hi) (Oper.wp_mono (fun a' w' h'=>wpOpsIn_of_seq hd l a' w' h') h)
    ·exact Oper.wpIn_mono (fun a' w' h'=>wpOpsIn_of_seq hd l a' w' h') h.2
   ·rename_i hw
    rw [if_neg hw] at h
    exact ⟨fun f _=>trivial,wpOpsIn_of_seq hd l _ w h⟩

theorem range_filterMap (ops:Array Oper):(List.range ops.size).filterMap (ops[·]?)=ops.toList:=by
 apply List.ext_getElem?
 intro i
 have h:∀ (l:List Nat),(∀ x ∈ l,x<ops.size)→l.filterMap (ops[·]?)=l.map fun x=>ops.getD x default:=by
  intro l hl
  induction l with
  | nil=>rfl
  | cons x l ih =>
   simp_all
 rw [h _ (fun x hx=>List.mem_range.1 hx)]
 by_cases hi:i<ops.size
 ·simp [hi]
 simp_all

def ASeq (P:Program) (G:Gh) (ops:Array Oper) (l:List Oper) (s:AS) (K:AS→Prop):Prop :=
 ∀ a w,Rel G s a w→∀ Q:Exit→Act→World→Prop,(∀ s' a' w',K s'→Rel G s' a' w'→Q .normal a' w')→wpSeq G P ops Q l a w

def dstOk (G:Gh) (o:Oper):Bool:=match o.dst with|some d=>Nat.blt d G.N|none=>true
theorem dst_of (h:dstOk G o=true):∀ d,o.dst=some d→d<G.N:=fun d hd=>by
 simp_all [dstOk]

theorem jN (h:K s):ASeq P G ops [] s K:=fun _ _ hr _ hQ=>hQ _ _ _ h hr
theorem seq_rdO {v:CV} (hw:Wanted G ops o s true) (hd:dstOk G o=true) (h:ARdO P G o s v) (hk:ASeq P G ops r (s.put o.dst v) K):ASeq P G ops (o::r) s K:=fun a w ⟨St,hr⟩ Q hQ=>by
 unfold wpSeq
 rw [if_pos (hw St a w hr)]
 refine .inl ?_
 obtain ⟨x,hx,hv⟩:=h St a w hr
 unfold Oper.wp
 rw [hx w (Below.refl _ _)]
 exact hk _ _ ⟨St,hr.put (dst_of hd) hv⟩ Q hQ
theorem seq_rd {v:CV} (hw:Wanted G ops o s true) (hd:dstOk G o=true) (h:ARd P G o s v) (hk:ASeq P G ops r (s.put o.dst v) K):ASeq P G ops (o::r) s K:=seq_rdO hw hd h.own hk
theorem seq_skip (hw:Wanted G ops o s false) (hd:dstOk G o=true) (hk:ASeq P G ops r (s.put o.dst (.c undef)) K):ASeq P G ops (o::r) s K:=fun a w ⟨St,hr⟩ Q hQ=>by
 unfold wpSeq
 rw [if_neg (by rw [hw St a w hr];grind)]
 exact hk _ _ ⟨St,hr.put (v:=.c undef) (dst_of hd) rfl⟩ Q hQ
theorem seq_ex (hw:Wanted G ops o s true) (h:AEx P G o s (fun s'=>ASeq P G ops r s' K)):ASeq P G ops (o::r) s K:=fun a w hr Q hQ=>by
 unfold wpSeq
 obtain ⟨St,hs⟩:=id hr
 rw [if_pos (hw St a w hs)]
 exact .inl (Oper.wp_mono (fun a' w' ⟨_,St',_,s',h1,h2⟩=>h1 a' w' ⟨St',h2⟩ Q hQ) (h St a w hs Q))
theorem seq_md (hw:Wanted G ops o s true) (h:AMd P G o s (fun s'=>ASeq P G ops r s' K)):ASeq P G ops (o::r) s K:=fun a w hr Q hQ=>by
 unfold wpSeq
 obtain ⟨St,hs⟩:=id hr
 rw [if_pos (hw St a w hs)]
 exact .inl (Oper.wp_mono (fun a' w' ⟨_,St',_,s',h1,h2⟩=>h1 a' w' ⟨St',h2⟩ Q hQ) (h St a w hs Q))
theorem AEx.md (h:AEx P G o s K):AMd P G o s K:=fun St a w hr Q=>Oper.wp_mono (fun _ _ h=>⟨keep_of_below hr h.1,h.2⟩) (h St a w hr Q)

def AX (P:Program) (G:Gh) (ops:Array Oper) (t:OrdO) (s:AS) (K:AS→Prop):Prop :=
 ∀ a w,Rel G s a w→∀ (Q:Exit→Act→World→Prop) (R:Act→World→Prop),(∀ s' a' w',K s'→Rel G s' a' w'→R a' w')→wpXB P ops Q R t a w

theorem x_done (h:K s):AX P G ops .done s K:=fun _ _ hr _ _ hQ n=>hQ _ _ _ h (hr.ext n.below)
theorem x_rdO {t:OrdO} {v:CV} (hw:Wanted G ops o s true) (hd:dstOk G o=true) (h:ARdO P G o s v) (hk:AX P G ops t (s.put o.dst v) K):AX P G ops (.rd o t) s K:=fun a w ⟨St,hr⟩ Q R hQ=>by
 obtain ⟨x,hx,hv⟩:=h St a w hr
 exact ⟨x,.inl ⟨hw St a w hr,fun W hW=>hx W hW⟩,hk _ _ ⟨St,hr.put (dst_of hd) hv⟩ Q R hQ⟩
theorem x_rd {t:OrdO} {v:CV} (hw:Wanted G ops o s true) (hd:dstOk G o=true) (h:ARd P G o s v) (hk:AX P G ops t (s.put o.dst v) K):AX P G ops (.rd o t) s K:=x_rdO hw hd h.own hk
theorem x_skip {t:OrdO} (hw:Wanted G ops o s false) (hd:dstOk G o=true) (hk:AX P G ops t (s.put o.dst (.c undef)) K):AX P G ops (.rd o t) s K:=fun a w ⟨St,hr⟩ Q R hQ =>
 ⟨undef,.inr ⟨hw St a w hr,rfl⟩,hk _ _ ⟨St,hr.put (v:=.c undef) (dst_of hd) rfl⟩ Q R hQ⟩
theorem x_one {t:OrdO} (hw:Wanted G ops o s true) (h:AEx P G o s (fun s'=>AX P G ops t s' K)):AX P G ops (.one o t) s K:=fun a w hr Q R hQ n=>by
 obtain ⟨St,hs⟩:=id hr
 rw [if_pos (hw St a w hs)]
 exact Oper.wp_mono (fun a' w' ⟨hb,St',_,s',h1,h2⟩=>⟨hb,h1 a' w' ⟨St',h2⟩ Q R hQ⟩) (h St a n.w (hs.ext n.below) Q)
theorem x_noone {t:OrdO} (hw:Wanted G ops o s false) (hd:dstOk G o=true) (hk:AX P G ops t (s.put o.dst (.c undef)) K):AX P G ops (.one o t) s K:=fun a w ⟨St,hr⟩ Q R hQ n=>by
 rw [if_neg (by rw [hw St a w hr];grind)]
 exact hk _ _ ⟨St,hr.put (v:=.c undef) (dst_of hd) rfl⟩ Q R hQ
theorem x_two {p:Oper} {t u:OrdO} (h1:AX P G ops (.one o t) s K) (h2:AX P G ops (.one p u) s K):AX P G ops (.two o t p u) s K:=fun a w hr Q R hQ=>⟨h1 a w hr Q R hQ,h2 a w hr Q R hQ⟩
def AZ (P:Program) (G:Gh) (ops:Array Oper) (t:OrdO) (s:AS) (K:AS→Prop):Prop :=
 ∀ St a w,RelSt G St s a w→∀ Q:Exit→Act→World→Prop,(∀ s' a' w',K s'→Rel G s' a' w'→Q .normal a' w')→∃ St',(∀ b,St b→St' b)∧wpXS P ops Q St' t a w
theorem z_done (h:K s):AZ P G ops .done s K:=fun St _ _ hr _ hQ=>⟨St,fun _ h=>h,hQ _ _ _ h ⟨_,hr⟩⟩
theorem z_rd {t:OrdO} {v:CV} (hw:Wanted G ops o s true) (hd:dstOk G o=true) (h:ARd P G o s v) (hk:AZ P G ops t (s.put o.dst v) K):AZ P G ops (.rd o t) s K:=fun St a w hr Q hQ=>by
 obtain ⟨x,hx,hv⟩:=h St a w hr
 obtain ⟨St',hs,h2⟩:=hk _ _ _ (hr.put (dst_of hd) hv) Q hQ
 exact ⟨St',hs,x,.inl (YieldsS.grow hs (.inl ⟨hw St a w hr,fun W hW=>hx W hW⟩)),h2⟩
theorem z_rdO {t:OrdO} {v:CV} (hw:Wanted G ops o s true) (hd:dstOk G o=true) (hb:ownB ops o=true) (h:ARdO P G o s v) (hk:AZ P G ops t (s.put o.dst v) K):AZ P G ops (.rd o t) s K:=fun St a w hr Q hQ=>by
 obtain ⟨x,hx,hv⟩:=h St a w hr
 obtain ⟨St',hs,h2⟩:=hk _ _ _ (hr.put (dst_of hd) hv) Q hQ
 exact ⟨St',hs,x,.inr ⟨hb,.inl ⟨hw St a w hr,fun W hW=>hx W hW⟩⟩,h2⟩
theorem z_skip {t:OrdO} (hw:Wanted G ops o s false) (hd:dstOk G o=true) (hk:AZ P G ops t (s.put o.dst (.c undef)) K):AZ P G ops (.rd o t) s K:=fun St a w hr Q hQ=>by
 obtain ⟨St',hs,h2⟩:=hk _ _ _ (hr.put (v:=.c undef) (dst_of hd) rfl) Q hQ
 exact ⟨St',hs,undef,.inl (.inr ⟨hw St a w hr,rfl⟩),h2⟩
theorem z_md {t:OrdO} (hw:Wanted G ops o s true) (hm:isMod o=true) (h:AMd P G o s (fun s'=>AZ P G ops t s' K)):AZ P G ops (.one o t) s K:=fun St a w hr Q hQ=>by
 refine ⟨St,fun _ h=>h,?_⟩
 unfold wpXS
 rw [if_pos (hw St a w hr)]
 refine Oper.wp_mono (fun a' w' ⟨hb,St',hs,s',h1,h2⟩=>?_) (h St a w hr Q)
 obtain ⟨St2,hs2,h3⟩:=h1 St' a' w' h2 Q hQ
 exact ⟨⟨hb,fun h=>by simp_all⟩,St2,fun b hb=>hs2 b (hs b hb),h3⟩
theorem z_ex {t:OrdO} (hw:Wanted G ops o s true) (h:AEx P G o s (fun s'=>AZ P G ops t s' K)):AZ P G ops (.one o t) s K:=fun St a w hr Q hQ=>by
 refine ⟨St,fun _ h=>h,?_⟩
 unfold wpXS
 rw [if_pos (hw St a w hr)]
 refine Oper.wp_mono (fun a' w' ⟨hb,St',hs,s',h1,h2⟩=>?_) (h St a w hr Q)
 obtain ⟨St2,hs2,h3⟩:=h1 St' a' w' h2 Q hQ
 exact ⟨⟨keep_of_below hr hb,fun _=>hb⟩,St2,fun b hb=>hs2 b (hs b hb),h3⟩
theorem z_one1O {t:OrdO} {v:CV} (hw:Wanted G ops o s true) (hd:dstOk G o=true) (h:ARdO P G o s v) (hk:AZ P G ops t (s.put o.dst v) K):AZ P G ops (.one o t) s K :=
 z_ex hw fun St a w hr Q=>by
  obtain ⟨x,hx,hv⟩:=h St a w hr
  unfold Oper.wp
  rw [hx w (Below.refl _ _)]
  exact ⟨Below.refl _ _,St,fun _ h=>h,_,hk,hr.put (dst_of hd) hv⟩
theorem z_two {p:Oper} {t u:OrdO} (h1:AZ P G ops (.one o t) s K) (h2:AZ P G ops (.one p u) s K):AZ P G ops (.two o t p u) s K:=fun St a w hr Q hQ=>by
 obtain ⟨S1,hs1,h3⟩:=h1 St a w hr Q hQ
 obtain ⟨S2,hs2,h4⟩:=h2 St a w hr Q hQ
 have h3:=wpXS_lower hs1 h3
 have h4:=wpXS_lower hs2 h4
 unfold wpXS at h3 h4
 exact ⟨St,fun _ h=>h,h3,h4⟩
def ACode (P:Program) (G:Gh) (c:Code) (s:AS) (R:Exit→AS→Prop):Prop :=
 ∀ a w,Rel G s a w→∀ Q:Exit→Act→World→Prop,(∀ e s' a' w',R e s'→Rel G s' a' w'→Q e a' w')→c.wpIn (frd G.rd) 0 P Q a w
def thenR (Y:AS→Prop) (R:Exit→AS→Prop):Exit→AS→Prop
 | .normal,s=>Y s
 | e,s=>R e s
def blockR (id:Nat) (R:Exit→AS→Prop):Exit→AS→Prop
 | .exit j,s=>match Nat.beq j id with|true=>R .normal s|false=>R (.exit j) s
 | e,s=>R e s
variable {R:Exit→AS→Prop} {x y c:Code}

theorem code_region {id:Nat} (h:ASeq P G ops ops.toList s (R .normal)) (hd:rdB G.rd ops=true:=by rfl):ACode P G (.region id ops false) s R:=fun a w hr Q hQ =>
 wpIn_region (wpOpsIn_of_seq hd _ a w (by rw [range_filterMap];exact h a w hr Q (hQ .normal)))
theorem code_draw {id:Nat} (t:Ord) (hm:P.follows .mixedOrders=true) (hs:Region.noSelect ops=true) (hl:t.len=ops.size) (hin:t.within ops.size=true)
  (hB:orderT .any ops t (Array.replicate ops.size false)=true) (h:AX P G ops (opsOfT ops t) s (R .normal)) (hd:rdB G.rd ops=true:=by rfl):ACode P G (.region id ops true) s R:=fun a w hr Q hQ =>
 wpIn_any hd hm (any_X t hs hl hin hB (wpX_of_XB _ _ _ (h a w hr _ _ (fun s' a' w' h1 h2=>NoPanic.normal (hQ .normal s' a' w' h1 h2)))))
theorem range_tail (ops:Array Oper) (m:Nat) (hm:m≤ops.size):((List.range (ops.size-m)).map (m+·)).filterMap (ops[·]?)=ops.toList.drop m:=by
 rw [← range_filterMap,show List.range ops.size=List.range m++(List.range (ops.size-m)).map (m+·) by
  conv=>lhs;rw [show ops.size=m+(ops.size-m) by omega,List.range_add]]
 rw [List.filterMap_append]
 have e:((List.range m).filterMap (ops[·]?)).length=m:=by
  have h:∀ l:List Nat,(∀ x ∈ l,x<ops.size)→(l.filterMap (ops[·]?)).length=l.length:=by
   intro l hl
   induction l with
   | nil=>rfl
   | cons x l ih =>
    simp_all
  rw [h _ (fun x hx=>by grind),List.length_range]
 rw [List.drop_left' e]
theorem code_drawB {id:Nat} (m:Nat) (t:Ord) (hmix:P.follows .mixedOrders=true) (hs:Region.noSelect ops=true) (hm:Nat.ble m ops.size=true) (hl:t.len=m) (hin:t.within ops.size=true) (hc:coverB .any ops m=true)
  (hB:orderB2 .any ops m t (Array.replicate ops.size false)=true) (ht:tailB .any ops (ops.size-m) m (barL m ops.size)=true)
  (h:AX P G ops (opsOfT ops t) s (fun s'=>ASeq P G ops (ops.toList.drop m) s' (R .normal))) (hd:rdB G.rd ops=true:=by rfl) (hy:G.yl=false:=by rfl):ACode P G (.region id ops true) s R:=fun a w hr Q hQ =>
 wpIn_any hd hmix (any_XB m t hs hm hl hin hc hB ht (h a w hr _ _ (fun s' a' w' h1 h2=>wpOps_of_seq hy _ a' w' (by
  rw [range_tail ops m (Nat.le_of_ble_eq_true hm)]
  exact h1 a' w' h2 _ (fun s'' a'' w'' h3 h4=>NoPanic.normal (hQ .normal s'' a'' w'' h3 h4))))))
theorem code_drawZ {id:Nat} (u:Ord) (hmix:P.follows .mixedOrders=true) (hs:Region.noSelect ops=true) (hul:u.len=ops.size) (huin:u.within ops.size=true) (hu:orderT .any ops u (Array.replicate ops.size false)=true)
  (h:AZ P G ops (opsOfT ops u) s (R .normal)) (hd:rdB G.rd ops=true:=by rfl):ACode P G (.region id ops true) s R:=fun a w ⟨St,hr⟩ Q hQ =>
 let ⟨St',_,h5⟩:=h St a w.drew (hr.ext (below_drew1 w)) (NoPanic (OnlyN Q)) (fun s'' a'' w'' h3 h4=>NoPanic.normal (hQ .normal s'' a'' w'' h3 h4))
 wpIn_any hd hmix (any_S (S:=St') u hs hul huin hu h5)
theorem code_seq (h:ACode P G x s (thenR (fun s'=>ACode P G y s' R) R)):ACode P G (.seq x y) s R:=fun a w hr Q hQ =>
 wpIn_seq (h a w hr _ (fun e s' a' w' h1 h2=>by
  cases e with
  | normal=>exact h1 a' w' h2 Q hQ
  | _=>exact hQ _ s' a' w' h1 h2))
theorem code_cond {d:Operand} {t:Bool} (hl:s.eval d=.c (.bool t)) (ht:t=true→ACode P G x s R) (hf:t=false→ACode P G y s R):ACode P G (.cond d x y) s R:=fun a w hr Q hQ=>by
 obtain ⟨St,hs⟩:=id hr
 have he:=hs.eval d
 rw [hl] at he
 have he:a.eval d=.bool t:=he
 exact wpIn_cond_split he (fun h=>ht h a w hr Q hQ) (fun h=>hf h a w hr Q hQ)
theorem jB {id:Nat} (h:ACode P G c s (blockR id R)):ACode P G (.block id c) s R:=fun a w hr Q hQ =>
 wpIn_block (h a w hr _ (fun e s' a' w' h1 h2=>by
  cases e with
  | exit j =>
   show if j=id then _ else _
   grind [beq_cases,blockR]
  | _=>exact hQ _ s' a' w' h1 h2))
theorem jX {id:Nat} (h:R (.exit id) s):ACode P G (.exit id) s R:=fun a w hr _ hQ=>wpIn_exit (hQ _ s a w h hr)
theorem jR (h:R .ret s):ACode P G .ret s R:=fun a w hr _ hQ=>wpIn_ret (hQ _ s a w h hr)
theorem jS (h:R .normal s):ACode P G .skip s R:=fun a w hr _ hQ=>wpIn_skip (hQ _ s a w h hr)
def EntS (G:Gh) (s s':AS):Prop:=∀ St a w,RelSt G St s a w→∃ St',(∀ b,St b→St' b)∧RelSt G St' s' a w
theorem EntS.rel {s s':AS} (h:EntS G s s') {a:Act} {w:World} (hr:Rel G s a w):Rel G s' a w:=let ⟨St,hr⟩:=hr;let ⟨St',_,h2⟩:=h St a w hr;⟨St',h2⟩
theorem EntS.refl (s:AS):EntS G s s:=fun St _ _ h=>⟨St,fun _ h=>h,h⟩
theorem ents {env env':List (Nat×CV)} {b b':Nat→CV} {H H':List (Option Nat×Res)} (he:∀ d,CEnt (look env b d) (look env' b' d)) (l:List Nat) (hl:l.Nodup) (hH:pickL H l=H'):EntS G ⟨env,b,H⟩ ⟨env',b',H'⟩:=fun St _ _ h=>by
 have h1:=h.ent he
 exact ⟨St,fun _ h=>h,h1.df,h1.sz,h1.env,h1.un,h1.s1,h1.s2,h1.s3,h1.hp.pick l hl hH,h1.sn,h1.sg⟩
theorem EntS.trans {s s' s'':AS} (h:EntS G s s') (k:EntS G s' s''):EntS G s s'':=fun St a w hr=>let ⟨S1,h1,h2⟩:=h St a w hr;let ⟨S2,h3,h4⟩:=k S1 a w h2;⟨S2,fun b hb=>h3 b (h1 b hb),h4⟩
theorem ent_h {env:List (Nat×CV)} {b:Nat→CV} {H H':List (Option Nat×Res)} (h:HEnt H H'):EntS G ⟨env,b,H⟩ ⟨env,b,H'⟩:=fun St _ _ hr=>⟨St,fun _ h=>h,hr.df,hr.sz,hr.env,hr.un,hr.s1,hr.s2,hr.s3,hr.hp.hent h,hr.sn,hr.sg⟩
theorem jE {s':AS} (he:EntS G s s') (h:ACode P G c s' R):ACode P G c s R:=fun a w hr Q hQ=>h a w (he.rel hr) Q hQ
theorem code_mono {R':Exit→AS→Prop} (h:ACode P G c s R') (hR:∀ e s,R' e s→R e s):ACode P G c s R:=fun a w hr Q hQ=>h a w hr Q (fun e s' a' w' h1 h2=>hQ e s' a' w' (hR e s' h1) h2)

theorem code_loop {α:Type} (S:α→AS) (φ:α→Prop) (μ:α→Nat) (p0:α) (h0:φ p0) (he:EntS G s (S p0))
  (hr:∀ p,φ p→ACode P G c (S p) (thenR (fun s'=>∃ p',φ p'∧μ p'<μ p∧EntS G s' (S p')) R)):ACode P G (.loop c) s R:=by
 intro a w hrel Q hQ b k cs hro hb hroom
 have key:∀ n p a w,μ p=n→φ p→Rel G (S p) a w→∃ e a' w',Q e a' w'∧ArrivesIn (Machine.fenced P (frd G.rd)) P (lone (b.atR a (.code c::.inLoop c::k)) cs w) b k cs e a' w':=by
  intro n
  induction n using Nat.strongRecOn with
  | _ n ih =>
   intro p a w hn hp hrel
   have hwp:=hr p hp a w hrel (Exit.then (fun a' w'=>∃ p',φ p'∧μ p'<μ p∧Rel G (S p') a' w') Q) (fun e s' a' w' h1 h2=>by
    cases e with
    | normal =>
     obtain ⟨p',h3,h4,h5⟩:=h1
     exact ⟨p',h3,h4,h5.rel h2⟩
    | _=>exact hQ _ s' a' w' h1 h2)
   obtain ⟨e,a₁,w₁,hq,harr⟩:=hwp b (.inLoop c::k) cs hro hb hroom
   cases e with
   | normal =>
    obtain ⟨p',hp',hlt,hrel'⟩:=hq
    obtain ⟨e₂,a₂,w₂,hq₂,harr₂⟩:=ih (μ p') (hn ▸ hlt) p' a₁ w₁ rfl hp' hrel'
    exact ⟨e₂,a₂,w₂,hq₂,.of_steps (StepsIn.trans harr (.one (fenced_calm hb hroom rfl) stepR_inLoop)) harr₂⟩
   | exit id=>exact ⟨_,a₁,w₁,hq,.pass (x:=.inLoop c) rfl (fun _ _=>.inl (by simp)) harr⟩
   | goto l=>exact ⟨_,a₁,w₁,hq,.pass (x:=.inLoop c) rfl (fun _ _=>.inl (by simp)) harr⟩
   | ret=>exact ⟨_,a₁,w₁,hq,.pass (x:=.inLoop c) rfl (fun _ _=>.inl (by simp)) harr⟩
   | panic ch=>exact ⟨_,a₁,w₁,hq,.pass (x:=.inLoop c) rfl (fun _ _=>.inl (by simp)) harr⟩
   | outgrown=>exact ⟨_,a₁,w₁,hq,.pass (x:=.inLoop c) rfl (fun _ _=>.inl (by simp)) harr⟩
 obtain ⟨e,a',w',hq,harr⟩:=key _ p0 a w rfl h0 (he.rel hrel)
 exact ⟨e,a',w',hq,.of_steps (.one (fenced_calm hb hroom rfl) stepR_loop) harr⟩

def inD:List Nat→Nat→Bool
 | a::z::r,d=>(Nat.ble a d && Nat.ble d z) || inD r d
 | _,_=>false
def inI:List Nat→Nat→Nat→Bool
 | b::y::r,a,z=>(Nat.ble b a && Nat.ble z y) || inI r a z
 | _,_,_=>false
def subD:List Nat→List Nat→Bool
 | a::z::r,D=>inI D a z && subD r D
 | _,_=>true
theorem inI_in {a z d:Nat} (h1:a≤d) (h2:d≤z):∀ {D:List Nat},inI D a z=true→inD D d=true
 | b::y::r,h=>by
  simp only [inI,inD,Bool.or_eq_true,Bool.and_eq_true,Nat.ble_eq] at h ⊢
  exact h.imp (fun h=>⟨by omega,by omega⟩) (inI_in h1 h2)
theorem subD_in {d:Nat} {D:List Nat}:∀ {D2:List Nat},subD D2 D=true→inD D2 d=true→inD D d=true
 | a::z::r,h,k=>by
  simp only [subD,inD,Bool.or_eq_true,Bool.and_eq_true,Nat.ble_eq] at h k
  exact k.elim (fun k=>inI_in k.1 k.2 h.1) (subD_in h.2)
theorem subD_out {d:Nat} {D D2:List Nat} (h:subD D2 D=true) (hd:inD D d=false):inD D2 d=false:=by
 grind [subD_in]
def kD (D:List Nat) (l:List (Nat×CV)):Bool:=l.all fun x=>inD D x.1
def lay (D:List Nat) (env:List (Nat×CV)) (b:Nat→CV) (d:Nat):CV:=match inD D d with|true=>.top|false=>look env b d
theorem range_nodup (n:Nat):(List.range n).Nodup:=List.nodup_range
theorem pickL_range (H:List (Option Nat×Res)) (n:Nat) (hn:n≤H.length):pickL H (List.range n)=H.take n:=by
 apply List.ext_getElem?
 grind [pickL]

inductive BLe (D:List Nat) (b0:Nat→CV):(Nat→CV)→Prop
 | refl:BLe D b0 b0
 | nest {D2:List Nat} {env2:List (Nat×CV)} {b2:Nat→CV}:BLe D b0 b2→subD D2 D=true→kD D env2=true→BLe D b0 (lay D2 env2 b2)
theorem look_keys {D:List Nat}:∀ {l:List (Nat×CV)} (b:Nat→CV) (d:Nat),kD D l=true→inD D d=false→look l b d=b d
 | [],_,_,_,_=>rfl
 |(e,v)::r,b,d,h,hd=>by
  simp only [kD,List.all_cons,Bool.and_eq_true] at h
  have hne:e≠d:=fun x=>by rw [x,hd] at h;exact absurd h.1 Bool.noConfusion
  rw [look_other _ _ _ hne]
  exact look_keys b d h.2 hd
theorem BLe.ent {D:List Nat} {b0 b':Nat→CV} (h:BLe D b0 b') (ht:∀ d,inD D d=true→b0 d=.top):∀ d,CEnt (b' d) (b0 d):=by
 induction h with
 | refl=>exact fun d=>cZ
 | @nest D2 env2 b2 h1 h2 h3 ih =>
  intro d
  cases hd:inD D d with
  | true=>rw [ht d hd];exact CEnt.top _
  | false =>
   have hD:=subD_out h2 hd
   have e:lay D2 env2 b2 d=b2 d:=by
    simp only [lay]
    rw [hD]
    exact look_keys b2 d h3 hd
   rw [e]
   exact ih d
abbrev LEnd {α:Type} (D:List Nat) (b1:Nat→CV) (M:α→List (Nat×CV)) (Hp:α→List (Option Nat×Res)) (φ:α→Prop) (μ:α→Nat) (k:Nat) (s:AS):Prop:=∃ p',φ p'∧μ p'<k∧BLe D b1 s.b∧kD D s.env=true∧EntE s.env s.b (M p')∧(Hp p').length≤s.H.length∧HEnt (s.H.take (Hp p').length) (Hp p')
abbrev JEnd {α:Type} (D:List Nat) (b1:Nat→CV) (M:α→List (Nat×CV)) (Hp:α→List (Option Nat×Res)) (φ:α→Prop) (s:AS):Prop:=∃ p',φ p'∧BLe D b1 s.b∧kD D s.env=true∧EntE s.env s.b (M p')∧(Hp p').length≤s.H.length∧HEnt (s.H.take (Hp p').length) (Hp p')
theorem code_loopD {α:Type} (D:List Nat) (M:α→List (Nat×CV)) (Hp:α→List (Option Nat×Res)) (φ:α→Prop) (μ:α→Nat) (p0:α) (h0:φ p0) (hM:∀ p,kD D (M p)=true) (he:EntE s.env s.b (M p0)) (hH:HEnt s.H (Hp p0))
  (hr:∀ p,φ p→ACode P G c ⟨M p,lay D s.env s.b,Hp p⟩ (thenR (fun s'=>LEnd D (lay D s.env s.b) M Hp φ μ (μ p) s') R)):ACode P G (.loop c) s R:=by
 have top0:∀ d,inD D d=true→lay D s.env s.b d=.top:=fun d hd=>by simp only [lay];rw [hd]
 have top:∀ (l:List (Nat×CV)),kD D l=true→∀ d v,(d,v) ∈ l→lay D s.env s.b d=.top:=fun l hl d v hv=>by
  have:=List.all_eq_true.1 hl _ hv
  simp_all
 refine code_loop (fun p=>⟨M p,lay D s.env s.b,Hp p⟩) φ μ p0 h0 ?_ (fun p hp=>code_mono (hr p hp) (fun e s' h=>?_))
 ·have he':∀ d,CEnt (look s.env s.b d) (look (M p0) (lay D s.env s.b) d):=EntE.look he fun d _=>by
   simp only [lay]
   split
   ·exact CEnt.top _
   ·exact cZ
  have h1:=ents (G:=G) (H:=s.H) (H':=s.H) he' (List.range s.H.length) (range_nodup _) (by rw [pickL_range _ _ (Nat.le_refl _),List.take_length])
  exact h1.trans (ent_h hH)
 ·cases e with
  | normal =>
   obtain ⟨p',h1,h2,h3,h4,h5,h6,h7⟩:=h
   refine ⟨p',h1,h2,?_⟩
   have he':∀ d,CEnt (look s'.env s'.b d) (look (M p') (lay D s.env s.b) d):=EntE.look h5 fun d hd=>by
    have key:∀ l:List (Nat×CV),kD D l=true→CEnt (look l s'.b d) (lay D s.env s.b d):=by
     intro l hl
     induction l with
     | nil=>exact h3.ent top0 d
     | cons x r ih =>
      obtain ⟨q,v⟩:=x
      by_cases hq:q=d
      ·rw [top _ hl d v (by simp_all)];exact CEnt.top _
      ·rw [look_other _ _ _ hq]
       exact ih (by grind [kD])
    exact key _ h4
   have h8:=ents (G:=G) (H:=s'.H) (H':=s'.H.take (Hp p').length) he' (List.range (Hp p').length) (range_nodup _) (by rw [pickL_range _ _ h6])
   exact h8.trans (ent_h h7)
  | _=>exact h

theorem BLe.out {D:List Nat} {b0 b':Nat→CV} (h:BLe D b0 b'):∀ d,inD D d=false→b' d=b0 d:=by
 induction h with
 | refl=>exact fun d _=>rfl
 | @nest D2 env2 b2 h1 h2 h3 ih =>
  grind [subD_out,lay,look_keys]
theorem code_join {α:Type} {d:Code} (D:List Nat) (M:α→List (Nat×CV)) (Hp:α→List (Option Nat×Res)) (φ:α→Prop) (hM:∀ p,kD D (M p)=true)
  (h1:ACode P G c ⟨[],look s.env s.b,s.H⟩ (thenR (fun s'=>JEnd D (look s.env s.b) M Hp φ s') R))
  (h2:∀ p,φ p→ACode P G d ⟨M p,lay D s.env s.b,Hp p⟩ R):ACode P G (.seq c d) s R:=by
 have h0:EntS G s ⟨[],look s.env s.b,s.H⟩:=by
  have:=ents (G:=G) (env:=s.env) (b:=s.b) (env':=[]) (b':=look s.env s.b) (H:=s.H) (H':=s.H) (fun d=>cZ) (List.range s.H.length) (range_nodup _) (by rw [pickL_range _ _ (Nat.le_refl _),List.take_length])
  exact this
 refine jE h0 (code_seq (code_mono h1 fun e s' h=>?_))
 cases e with
 | normal =>
  obtain ⟨p,h3,h4,h5,h6,h7,h8⟩:=h
  refine jE ?_ (h2 p h3)
  have he':∀ d,CEnt (look s'.env s'.b d) (look (M p) (lay D s.env s.b) d):=EntE.look h6 fun d hd=>by
   cases hD:inD D d with
   | true=>simp only [lay];rw [hD];exact CEnt.top _
   | false =>
    have e1:look s'.env s'.b d=s'.b d:=look_keys s'.b d h5 hD
    have e2:lay D s.env s.b d=look s.env s.b d:=by simp only [lay];rw [hD]
    rw [e1,e2,h4.out d hD]
    exact cZ
  have h9:=ents (G:=G) (H:=s'.H) (H':=s'.H.take (Hp p).length) he' (List.range (Hp p).length) (range_nodup _) (by rw [pickL_range _ _ h7])
  exact h9.trans (ent_h h8)
 | _=>exact h

structure Entry (gs:List Nat) (al:List Addr) (St F0:Nat→Prop) (H:List (Option Nat×Res)) (w:World):Prop where
 s3:∀ b,St b→b<w.heap.size
 sn:SentL w gs al
 sg:(∀ g ∈ lst gs,St g)∧∀ a ∈ al,St a.block
 hp:∃ fp,HFoot al St w w.heap.size F0 H fp
 f0:∀ b,F0 b→¬ St b

def AC (gs:List Nat) (P:Program) (f:FuncId) (H:List (Option Nat×Res)) (args:List CV) (Q:CV→List (Option Nat×Res)→Prop):Prop :=
 ∀ al w St F0 (vals:Array Value),Entry gs al St F0 H w→vals.size=args.length→(∀ i,RepC al St w (fl args i) (vals.getD i undef)) →
  Calls P f vals w fun e w'=>∃ v r H' St',e=.returned v∧Q r H'∧RepC al St' w' r v∧Under F0 w w'∧(∀ b,St b→St' b)∧(∀ b,St' b→St b∨w.heap.size≤b∨F0 b)∧(∀ b,St' b→b<w'.heap.size)∧HRel al St' w' w.heap.size F0 H'

theorem AC.mono {gs:List Nat} {f:FuncId} {H:List (Option Nat×Res)} {args:List CV} {Q Q':CV→List (Option Nat×Res)→Prop} (h:AC gs P f H args Q) (hQ:∀ r H',Q r H'→Q' r H'):AC gs P f H args Q' :=
 fun al w St F0 vals he hs hv=>(h al w St F0 vals he hs hv).mono fun _ _ ⟨v,r,H',St',h1,h2,h3⟩=>⟨v,r,H',St',h1,hQ _ _ h2,h3⟩

def ARes (P:Program) (G:Gh) (fn:Func) (s:AS) (r:CV):Prop:=∀ St a w,RelSt G St s a w→∃ v,(results fn a.tmps).run P w=.ok v w∧RepC G.al St w r v

def bodyR (P:Program) (G:Gh) (fn:Func) (Q:CV→List (Option Nat×Res)→Prop):Exit→AS→Prop
 | .normal,s|.ret,s=>∃ r H',ARes P G fn s r∧Q r H'∧∀ St a w,RelSt G St s a w→HRel G.al St w G.w0.heap.size G.F0 H'
 | _,_=>False

def env0:Nat→List CV→List (Nat×CV)
 | _,[]=>[]
 | i,x::r=>(i,x)::env0 (i+1) r
theorem look_env0 (b:Nat→CV) (hb:∀ d,b d=.top) (l:List CV):∀ (i d:Nat),look (env0 i l) b d=if d<i then .top else fl l (d-i):=by
 induction l with
 | nil=>intro i d;simp [env0,look,fl,hb]
 | cons x r ih =>
  intro i d
  by_cases h:i=d
  ·subst h;rw [env0,look_same];simp [fl]
  ·rw [env0,look_other _ _ _ h,ih]
   by_cases h2:d<i
   ·grind
   ·rw [if_neg (by omega),if_neg h2]
    obtain ⟨m,hm⟩:∃ m,d-i=m+1:=⟨d-i-1,by omega⟩
    grind [fl]

theorem fl_none:∀ (l:List CV) (i:Nat),l.length≤i→fl l i=.top
 | [],_,_=>by simp [fl]
 | _::r,0,h=>by simp at h
 | _::r,i+1,h=>by rw [fl];exact fl_none r i (by simpa using h)

theorem leaves_of {fn:Func} {R:Ending→World→Prop}:∀ (Ds:List Nat) (tmps:Array Value) (w:World) (St:Nat→Prop),RelSt G St s { tmps:=tmps,defers:=Ds.map markD } w →
  (∀ w',RelSt G St s { tmps:=tmps,defers:=[] } w'→∃ v,(results fn tmps).run P w'=.ok v w'∧R (.returned v) w')→LeavesInM Fence.wide 0 P fn tmps R (Ds.map markD) .returning w
 | [],tmps,w,St,hr,h=>h w hr
 | D::Ds,tmps,w,St,hr,h=>by
  obtain ⟨h1,h2⟩:=RelSt.take hr
  exact ⟨fun e=>(by cases e),.inl ⟨D,_,rfl,run_takeDeferred h1,leaves_of Ds tmps _ St h2 h⟩⟩
theorem ac_ofY {gs:List Nat} {f:FuncId} {fn:Func} {H:List (Option Nat×Res)} {args:List CV} {Q:CV→List (Option Nat×Res)→Prop} (yl:Bool) (n:Nat) (hf:P.funcs[f]?=some fn) (hb:fn.body=some c) (hn:fn.ntmps=n) (hle:Nat.ble args.length n=true)
  (h:∀ (al:List Addr) (w0:World) (F0 St0:Nat→Prop),ACode P ⟨gs,al,w0,F0,St0,n,none,yl⟩ c ⟨env0 0 args,fun _=>.top,H⟩ (bodyR P ⟨gs,al,w0,F0,St0,n,none,yl⟩ fn Q)):AC gs P f H args Q:=by
 intro al w St F0 vals he hs hv
 have hle:args.length≤n:=Nat.le_of_ble_eq_true hle
 refine callsIn_wide.1 (callsIn_of_wp_marks (F:=Fence.wide) (n:=0) hf hb trivial (h al w F0 St { tmps:=vals++Array.replicate (fn.ntmps-vals.size) undef,defers:=[] } w ⟨St,DefOk.none _ _ _,?_,?_,Under.refl _ _,fun _ h=>h,fun _ h=>.inl h,he.s3,he.hp,he.sn,he.sg⟩ _ ?_))
 ·simp [hn,hs];omega
 ·intro d
  show RepC al St w (look (env0 0 args) (fun _=>.top) d) _
  rw [look_env0 _ (fun _=>rfl),if_neg (by omega),Nat.sub_zero]
  have:=hv d
  by_cases hd:d<args.length
  ·have e:(vals++Array.replicate (fn.ntmps-vals.size) undef).getD d undef=vals.getD d undef:=by
    simp [hs,hd,Array.getElem?_append_left]
   grind
  ·rw [fl_none args d (by omega)]
   trivial
 ·intro e s' a' w' h1 h2
  obtain ⟨St',hr⟩:=h2
  have key:∀ {r H'},ARes P ⟨gs,al,w,F0,St,n,none,yl⟩ fn s' r→Q r H'→(∀ Sx a w',RelSt ⟨gs,al,w,F0,St,n,none,yl⟩ Sx s' a w'→HRel al Sx w' w.heap.size F0 H')→LeavesInM Fence.wide 0 P fn a'.tmps (fun e w'=>∃ v_1 r H' St',e=Ending.returned v_1∧Q r H'∧RepC al St' w' r v_1∧Under F0 w w'∧(∀ b,St b→St' b)∧(∀ b,St' b→St b∨w.heap.size≤b∨F0 b)∧(∀ b,St' b→b<w'.heap.size)∧HRel al St' w' w.heap.size F0 H') a'.defers .returning w':=by
   intro r H' hres hq hh
   obtain ⟨Ds,hD,_⟩:=hr.df
   obtain ⟨tmps,ds⟩:=a'
   simp only at hD
   subst hD
   refine leaves_of Ds tmps w' St' hr fun w'' hr'=>?_
   obtain ⟨v,hv,hrep⟩:=hres St' _ w'' hr'
   exact ⟨v,hv,v,r,H',St',rfl,hq,hrep,hr'.un,hr'.s1,hr'.s2,hr'.s3,hh St' _ w'' hr'⟩
  cases e with
  | normal=>obtain ⟨r,H',hres,hq,hh⟩:=h1;exact key hres hq hh
  | ret=>obtain ⟨r,H',hres,hq,hh⟩:=h1;exact key hres hq hh
  | _=>exact h1.elim
theorem ac_of {gs:List Nat} {f:FuncId} {fn:Func} {H:List (Option Nat×Res)} {args:List CV} {Q:CV→List (Option Nat×Res)→Prop} (n:Nat) (hf:P.funcs[f]?=some fn) (hb:fn.body=some c) (hn:fn.ntmps=n) (hle:Nat.ble args.length n=true)
  (h:∀ (al:List Addr) (w0:World) (F0 St0:Nat→Prop),ACode P ⟨gs,al,w0,F0,St0,n,none,false⟩ c ⟨env0 0 args,fun _=>.top,H⟩ (bodyR P ⟨gs,al,w0,F0,St0,n,none,false⟩ fn Q)):AC gs P f H args Q:=ac_ofY false n hf hb hn hle h

theorem ac_oF {gs:List Nat} {f:FuncId} {fn:Func} {H:List (Option Nat×Res)} {args:List CV} {Q:CV→List (Option Nat×Res)→Prop} (n:Nat) (hf:P.funcs[f]?=some fn)
  (h:∀ (al:List Addr) (w0:World) (F0 St0:Nat→Prop),ACode P ⟨gs,al,w0,F0,St0,n,none,false⟩ c ⟨env0 0 args,fun _=>.top,H⟩ (bodyR P ⟨gs,al,w0,F0,St0,n,none,false⟩ fn Q)) (hb:fn.body=some c:=by exact rfl) (hn:fn.ntmps=n:=by exact rfl) (hle:Nat.ble args.length n=true:=by exact rfl):AC gs P f H args Q:=ac_of n hf hb hn hle h

theorem end_pure {fn:Func} {Q:CV→List (Option Nat×Res)→Prop} {e:Exit} (he:e=.ret∨e=.normal) (v:CV) (hres:ARes P G fn s v) (hq:Q v []):bodyR P G fn Q e s:=by
 have h:∃ r H',ARes P G fn s r∧Q r H'∧∀ St a w,RelSt G St s a w→HRel G.al St w G.w0.heap.size G.F0 H':=⟨v,[],hres,hq,fun _ _ _ _=>HRel.none _ _ _ _ _⟩
 rcases he with rfl|rfl <;> exact h
theorem end_own {fn:Func} {Q:CV→List (Option Nat×Res)→Prop} {e:Exit} (he:e=.ret∨e=.normal) (v:CV) (H':List (Option Nat×Res)) (l:List Nat) (hl:l.Nodup) (hH:pickL s.H l=H') (hres:ARes P G fn s v) (hq:Q v H'):bodyR P G fn Q e s:=by
 have h:∃ r H',ARes P G fn s r∧Q r H'∧∀ St a w,RelSt G St s a w→HRel G.al St w G.w0.heap.size G.F0 H':=⟨v,H',hres,hq,fun _ _ _ hr=>hr.hp.pick l hl hH⟩
 rcases he with rfl|rfl <;> exact h

theorem ARes.ent {fn:Func} {v v':CV} (h:ARes P G fn s v) (hv:CEnt v v'):ARes P G fn s v':=fun St a w hr=>by
 obtain ⟨x,h1,h2⟩:=h St a w hr
 exact ⟨x,h1,hv _ _ _ _ h2⟩
end
end
section
section
variable {P:Program} {G:Gh} {ops:Array Oper} {o:Oper} {s:AS}

theorem evC {St:Nat→Prop} {a:Act} {w:World} (h:RelSt G St s a w) {x:Operand} {v:Value} (hx:s.eval x=.c v):a.eval x=v:=by
 have:=h.eval x
 rw [hx] at this
 exact this
theorem evR {St:Nat→Prop} {a:Act} {w:World} (h:RelSt G St s a w) {x:Operand} {c:CV} (hx:s.eval x=c):RepC G.al St w c (a.eval x):=hx ▸ h.eval x
theorem vOk {x:Sem Value} {v:Value} {W W':World} (h:x.run P W=.ok v W'):(do pure (Next.value (← x)):Sem Next).run P W=.ok (.value v) W':=by
 simp [h]

theorem rd_move {x:Operand} {v:CV} (ho:o.op=.move x) (hv:s.eval x=v):ARd P G o s v:=fun _ a _ h=>⟨a.eval x,fun W _=>BigFrame.run_move x ho W,evR h hv⟩
theorem rd_assign {x:Operand} {v:CV} (ho:o.op=.assign x) (hv:s.eval x=v):ARd P G o s v:=fun _ a _ h=>⟨a.eval x,fun W _=>BigFrame.run_assign x ho W,evR h hv⟩

def binS (op:BinOp) (t:TypeId) (x y:Operand) (p q:Value):Sem Value:=do eqGuard op t x y p q;binOp op t p q
theorem rd_bin {op:BinOp} {t u:TypeId} {x y:Operand} {p q v:Value} (ho:o.op=.binOp op t x y u) (hx:s.eval x=.c p) (hy:s.eval y=.c q)
  (hr:∀ W,(binS op t x y p q).run P W=.ok v W):ARd P G o s (.c v):=fun _ a _ h =>
 ⟨v,fun W _=>by simp only [execOp,ho,evC h hx,evC h hy];exact vOk (hr W),rfl⟩

variable {t u:TypeId} {x y:Operand} {k:IntKind} {a b:Int}
theorem rd_add (ho:o.op=.binOp .add t x y u) (hx:s.eval x=.c (.int k a)) (hy:s.eval y=.c (.int k b)) (hr:k.wrap (a+b)=a+b):ARd P G o s (.c (.int k (a+b))) :=
 rd_bin ho hx hy fun W=>by simp [binS,eqGuard,binOp,Op.intArith,hr]
theorem rd_sub (ho:o.op=.binOp .sub t x y u) (hx:s.eval x=.c (.int k a)) (hy:s.eval y=.c (.int k b)) (hr:k.wrap (a-b)=a-b):ARd P G o s (.c (.int k (a-b))) :=
 rd_bin ho hx hy fun W=>by simp [binS,eqGuard,binOp,Op.intArith,hr]
theorem rd_mul (ho:o.op=.binOp .mul t x y u) (hx:s.eval x=.c (.int k a)) (hy:s.eval y=.c (.int k b)) (hr:k.wrap (a * b)=a * b):ARd P G o s (.c (.int k (a * b))) :=
 rd_bin ho hx hy fun W=>by simp [binS,eqGuard,binOp,Op.intArith,hr]
theorem rd_addW (ho:o.op=.binOp .add t x y u) (hx:s.eval x=.c (.int k a)) (hy:s.eval y=.c (.int k b)) (z:Int) (hr:k.wrap (a+b)=z):ARd P G o s (.c (.int k z)) :=
 rd_bin ho hx hy fun W=>by simp [binS,eqGuard,binOp,Op.intArith,hr]
theorem rd_mulW (ho:o.op=.binOp .mul t x y u) (hx:s.eval x=.c (.int k a)) (hy:s.eval y=.c (.int k b)) (z:Int) (hr:k.wrap (a * b)=z):ARd P G o s (.c (.int k z)) :=
 rd_bin ho hx hy fun W=>by simp [binS,eqGuard,binOp,Op.intArith,hr]
theorem rd_quo (ho:o.op=.binOp .quo t x y u) (hx:s.eval x=.c (.int k a)) (hy:s.eval y=.c (.int k b)) (h0:0≤a) (h1:1≤b) (hr:k.wrap (a / b)=a / b):ARd P G o s (.c (.int k (a / b))) :=
 rd_bin ho hx hy fun W=>by simp [binS,eqGuard,binOp,Op.intDiv,show ¬ b=0 by omega,Int.tdiv_eq_ediv_of_nonneg h0,hr]
theorem rd_rem (ho:o.op=.binOp .rem t x y u) (hx:s.eval x=.c (.int k a)) (hy:s.eval y=.c (.int k b)) (h0:0≤a) (h1:1≤b):ARd P G o s (.c (.int k (a % b))) :=
 rd_bin ho hx hy fun W=>by simp [binS,eqGuard,binOp,Op.intDiv,show ¬ b=0 by omega,Int.tmod_eq_emod_of_nonneg h0]
theorem rd_remT (ho:o.op=.binOp .rem t x y u) (hx:s.eval x=.c (.int k a)) (hy:s.eval y=.c (.int k b)) (h1:b≠0):ARd P G o s (.c (.int k (a.tmod b))) :=
 rd_bin ho hx hy fun W=>by simp [binS,eqGuard,binOp,Op.intDiv,h1]
theorem rd_and (ho:o.op=.binOp .and t x y u) (hx:s.eval x=.c (.int k a)) (hy:s.eval y=.c (.int k b)) (z:Int) (hr:k.wrap (BitVec.ofInt k.bits a &&& BitVec.ofInt k.bits b).toNat=z):ARd P G o s (.c (.int k z)) :=
 rd_bin ho hx hy fun W=>by simp [binS,eqGuard,binOp,Op.intBits,← hr]
theorem rd_or (ho:o.op=.binOp .or t x y u) (hx:s.eval x=.c (.int k a)) (hy:s.eval y=.c (.int k b)) (z:Int) (hr:k.wrap (BitVec.ofInt k.bits a ||| BitVec.ofInt k.bits b).toNat=z):ARd P G o s (.c (.int k z)) :=
 rd_bin ho hx hy fun W=>by simp [binS,eqGuard,binOp,Op.intBits,← hr]
theorem rd_shl {k':IntKind} (ho:o.op=.binOp .shl t x y u) (hx:s.eval x=.c (.int k a)) (hy:s.eval y=.c (.int k' b)) (h0:0≤b) (z:Int) (hr:k.wrap (a * 2 ^ (min b.toNat k.bits))=z):ARd P G o s (.c (.int k z)) :=
 rd_bin ho hx hy fun W=>by simp [binS,eqGuard,binOp,Op.shift,show ¬ b<0 by omega,← hr]
theorem rd_shr {k':IntKind} (ho:o.op=.binOp .shr t x y u) (hx:s.eval x=.c (.int k a)) (hy:s.eval y=.c (.int k' b)) (h0:0≤b) (z:Int) (hr:a.fdiv (2 ^ (min b.toNat k.bits))=z):ARd P G o s (.c (.int k z)) :=
 rd_bin ho hx hy fun W=>by simp [binS,eqGuard,binOp,Op.shift,show ¬ b<0 by omega,← hr]

theorem beqD {α:Type} [BEq α] [LawfulBEq α] [DecidableEq α] (a b:α):(a == b)=decide (a=b):=by
 grind
theorem eqG_int (op:BinOp) (t:TypeId) (x y:Operand) (k k':IntKind) (a b:Int) (W:World):(eqGuard op t x y (.int k a) (.int k' b)).run P W=.ok () W:=by
 unfold eqGuard
 split <;> simp
theorem rd_eqI (ho:o.op=.binOp .eql t x y u) (hx:s.eval x=.c (.int k a)) (hy:s.eval y=.c (.int k b)):ARd P G o s (.c (.bool (decide (a=b)))) :=
 rd_bin ho hx hy fun W=>by simp [binS,eqG_int,binOp,Op.intCmp];exact beqD ..
theorem rd_neI (ho:o.op=.binOp .neq t x y u) (hx:s.eval x=.c (.int k a)) (hy:s.eval y=.c (.int k b)):ARd P G o s (.c (.bool (decide (a≠b)))) :=
 rd_bin ho hx hy fun W=>by simp [binS,eqG_int,binOp,Op.intCmp,bne,beqD]
theorem rd_lt (ho:o.op=.binOp .lss t x y u) (hx:s.eval x=.c (.int k a)) (hy:s.eval y=.c (.int k b)):ARd P G o s (.c (.bool (decide (a<b)))) :=
 rd_bin ho hx hy fun W=>by simp [binS,eqG_int,binOp,Op.intCmp]
theorem rd_le (ho:o.op=.binOp .leq t x y u) (hx:s.eval x=.c (.int k a)) (hy:s.eval y=.c (.int k b)):ARd P G o s (.c (.bool (decide (a≤b)))) :=
 rd_bin ho hx hy fun W=>by simp [binS,eqG_int,binOp,Op.intCmp]
theorem rd_gt (ho:o.op=.binOp .gtr t x y u) (hx:s.eval x=.c (.int k a)) (hy:s.eval y=.c (.int k b)):ARd P G o s (.c (.bool (decide (b<a)))) :=
 rd_bin ho hx hy fun W=>by simp [binS,eqG_int,binOp,Op.intCmp]
theorem rd_ge (ho:o.op=.binOp .geq t x y u) (hx:s.eval x=.c (.int k a)) (hy:s.eval y=.c (.int k b)):ARd P G o s (.c (.bool (decide (b≤a)))) :=
 rd_bin ho hx hy fun W=>by simp [binS,eqG_int,binOp,Op.intCmp]
theorem ARd.int {z z':Int} (h:ARd P G o s (.c (.int k z))) (e:z=z'):ARd P G o s (.c (.int k z')):=e ▸ h
theorem ARd.bool {z z':Bool} (h:ARd P G o s (.c (.bool z))) (e:z=z'):ARd P G o s (.c (.bool z')):=e ▸ h
theorem ARd.ent {v v':CV} (h:ARd P G o s v) (e:CEnt v v'):ARd P G o s v':=fun St a w hr=>by
 obtain ⟨x,h1,h2⟩:=h St a w hr
 exact ⟨x,h1,e _ _ _ _ h2⟩

theorem eqG_bool (op:BinOp) (t:TypeId) (x y:Operand) (a b:Bool) (W:World):(eqGuard op t x y (.bool a) (.bool b)).run P W=.ok () W:=by
 unfold eqGuard
 split <;> simp
theorem rd_eqB {a b:Bool} (ho:o.op=.binOp .eql t x y u) (hx:s.eval x=.c (.bool a)) (hy:s.eval y=.c (.bool b)) (ht:P.underlying t=some .bool):ARd P G o s (.c (.bool (a == b))) :=
 rd_bin ho hx hy fun W=>by grind [binS,Sem.run_bind,eqG_bool,Result.andThen_ok,run_eql_bool]
theorem rd_neB {a b:Bool} (ho:o.op=.binOp .neq t x y u) (hx:s.eval x=.c (.bool a)) (hy:s.eval y=.c (.bool b)) (ht:P.underlying t=some .bool):ARd P G o s (.c (.bool (!(a == b)))) :=
 rd_bin ho hx hy fun W=>by grind [binS,Sem.run_bind,eqG_bool,Result.andThen_ok,run_neq_bool]

theorem eqG_str (op:BinOp) (t:TypeId) (x y:Operand) (a b:ByteArray) (W:World):(eqGuard op t x y (.string a) (.string b)).run P W=.ok () W:=by
 unfold eqGuard
 split <;> simp
theorem toList_inj {a b:ByteArray}:(a.toList=b.toList)↔a=b:=by
 constructor
 ·intro h
  rw [Go.ByteArray.toList_eq,Go.ByteArray.toList_eq] at h
  cases a;simp_all
 ·rintro rfl;rfl
theorem rd_eqS {a b:ByteArray} (ho:o.op=.binOp .eql t x y u) (hx:s.eval x=.c (.string a)) (hy:s.eval y=.c (.string b)):ARd P G o s (.c (.bool (decide (a=b)))) :=
 rd_bin ho hx hy fun W=>by simp [binS,eqG_str,binOp,Op.stringOp,beqD,toList_inj]
theorem rd_neS {a b:ByteArray} (ho:o.op=.binOp .neq t x y u) (hx:s.eval x=.c (.string a)) (hy:s.eval y=.c (.string b)):ARd P G o s (.c (.bool (decide (a≠b)))) :=
 rd_bin ho hx hy fun W=>by simp [binS,eqG_str,binOp,Op.stringOp,beqD,toList_inj]
theorem rd_ltS {a b:ByteArray} (ho:o.op=.binOp .lss t x y u) (hx:s.eval x=.c (.string a)) (hy:s.eval y=.c (.string b)):ARd P G o s (.c (.bool (Op.bytesLess a.toList b.toList))) :=
 rd_bin ho hx hy fun W=>by simp [binS,eqG_str,binOp,Op.stringOp]
theorem rd_gtS {a b:ByteArray} (ho:o.op=.binOp .gtr t x y u) (hx:s.eval x=.c (.string a)) (hy:s.eval y=.c (.string b)):ARd P G o s (.c (.bool (!(Op.bytesLess a.toList b.toList || a.toList == b.toList)))) :=
 rd_bin ho hx hy fun W=>by simp [binS,eqG_str,binOp,Op.stringOp]
theorem rd_eqE {n:Nat} (ho:o.op=.binOp .eql 37 x (.const .nilIface) u) (hx:s.eval x=.err n):ARd Tryz.prog G o s (.c (.bool (decide (n=0)))):=fun St a w h =>
 ⟨_,fun W _=>by
  have e:a.eval x=ev G.al n:=evR h hx
  simp only [execOp,ho,e]
  refine vOk ?_
  show (do eqGuard .eql _ _ _ (ev G.al n) .nilIface;binOp .eql _ (ev G.al n) .nilIface:Sem Value).run _ W=_
  rw [eqGuard_ev_nil]
  exact run_eql_ev_nil G.al n W,rfl⟩
theorem rd_neE {n:Nat} (ho:o.op=.binOp .neq 37 x (.const .nilIface) u) (hx:s.eval x=.err n):ARd Tryz.prog G o s (.c (.bool (decide (n≠0)))):=fun St a w h =>
 ⟨_,fun W _=>by
  have e:a.eval x=ev G.al n:=evR h hx
  simp only [execOp,ho,e]
  refine vOk ?_
  show (do eqGuard .neq _ _ _ (ev G.al n) .nilIface;binOp .neq _ (ev G.al n) .nilIface:Sem Value).run _ W=_
  grind [eqGuard_ev_nil,run_neq_ev_nil],rfl⟩


theorem rd_not {p:Bool} (ho:o.op=.unOp .not t x) (hx:s.eval x=.c (.bool p)):ARd P G o s (.c (.bool (!p))):=fun _ _ _ h =>
 ⟨_,fun W _=>by simp only [execOp,ho,evC h hx];exact vOk (by simp [Op.unary]),rfl⟩
theorem rd_convI {k':IntKind} {d:TypeDesc} (ho:o.op=.convert t u x) (hx:s.eval x=.c (.int k a)) (h1:P.underlying t=some d) (h2:P.underlying u=some (.int k')) (z:Int) (hr:k'.wrap a=z):ARd P G o s (.c (.int k' z)):=fun _ _ _ h =>
 ⟨_,fun W _=>by simp only [execOp,ho,evC h hx];exact vOk (v:=.int k' z) (by rw [← hr];simp [convert,underlying,h1,h2,Conv.intToInt]),rfl⟩

def byF (l:List UInt8) (i:Nat):CV:=.c (.int .u8 ((l.getD i 0).toNat:Nat))
def bsC (l:List UInt8):CV:=.rs 1 l.length fun i _=>byF l i

theorem bs_of_rep {al:List Addr} {St:Nat→Prop} {w:World} {l:List UInt8} {v:Value} (h:RepC al St w (bsC l) v):Bs w v l:=by
 obtain ⟨ao,cap,h1,h2,h3,h4,h5⟩:=h
 refine ⟨ao,cap,h1,h2,h3,h4,fun x hx=>⟨fun h=>(h5 x hx h).1,fun i hi=>?_⟩⟩
 obtain ⟨h6,h7,h8⟩:=h5 x hx (by omega)
 obtain ⟨v,hv,hr⟩:=h8 i 0 hi (by omega)
 rw [Nat.mul_one,Nat.add_zero] at hv
 rw [hv]
 exact congrArg some hr

theorem rep_bs_keep {al:List Addr} {St:Nat→Prop} {w W:World} {l:List UInt8} {v:Value} (h:RepC al St w (bsC l) v) (hW:KeepS St w W):RepC al St W (bsC l) v:=by
 obtain ⟨ao,cap,h1,h2,h3,h4,h5⟩:=h
 refine ⟨ao,cap,h1,h2,h3,h4,fun a ha hn=>?_⟩
 obtain ⟨h6,h7,h8⟩:=h5 a ha hn
 refine ⟨h6,h7,fun i j hi hj=>?_⟩
 obtain ⟨v,hv,hr⟩:=h8 i j hi hj
 exact ⟨v,(cell_of_block (hW _ h7) _).trans hv,hr⟩
theorem rd_convBS {e:TypeId} {l:List UInt8} (ho:o.op=.convert t u x) (hx:s.eval x=bsC l) (h1:P.underlying t=some (.slice e)) (h2:P.underlying e=some (.int .u8)) (h3:P.underlying u=some .string):ARd P G o s (.c (.string ⟨l.toArray⟩)):=fun St a w h=>by
 have hr:=evR h hx
 refine ⟨_,fun W hW=>?_,rfl⟩
 have hb:=bs_of_rep (rep_bs_keep hr hW)
 obtain ⟨ao,cap,e0,_⟩:=id hb
 grind [execOp,vOk,run_string_bs]

theorem rd_extract {n i:Nat} {f:Nat→CV} {v:CV} (ho:o.op=.extract x i) (hx:s.eval x=.tup n f) (hi:Nat.blt i n=true) (hv:f i=v):ARd P G o s v:=fun St a w h=>by
 obtain ⟨cs,e,hn,hf⟩:=evR h hx
 have hlt:i<n:=Nat.le_of_ble_eq_true hi
 refine ⟨cs.getD i undef,fun W _=>?_,hv ▸ hf i hlt⟩
 simp_all [execOp,Instr.extract]

def aggB (P:Program) (t:TypeId):Bool:=match P.underlying t with|some (.struct _)|some (.array _ _)=>true|_=>false
theorem run_isAgg {d:TypeDesc} (h:P.underlying t=some d) (W:World):(isAgg t).run P W=.ok (aggB P t) W:=by
 unfold isAgg aggB
 simp only [Sem.run_bind,underlying,run_program,Result.andThen_ok,h]
 cases d <;> simp

theorem rd_field {fs:Array Field} {fd:Field} {d:TypeDesc} {n i:Nat} {f:Nat→CV} {v:CV} (ho:o.op=.field t x i) (hx:s.eval x=.agg n f) (h1:P.underlying t=some (.struct fs)) (h2:fs[i]?=some fd)
  (h3:P.underlying fd.type=some d) (h4:aggB P fd.type=false) (hi:Nat.blt fd.offset n=true) (hv:f fd.offset=v):ARd P G o s v:=fun St a w h=>by
 obtain ⟨cs,e,hn,hf⟩:=evR h hx
 have hlt:fd.offset<n:=Nat.le_of_ble_eq_true hi
 refine ⟨cs.getD fd.offset undef,fun W _=>?_,hv ▸ hf _ hlt⟩
 simp_all [execOp,Instr.field,underlying,asAgg,part,run_isAgg]
theorem run_fieldPlace {fd:Field} {info:TypeInfo} {b q:Nat} (h5:P.info? fd.type=some info) (h6:info.size≠0) (W:World):(fieldPlace ⟨b,q,none⟩ fd).run P W=.ok ⟨b,q+fd.offset,none⟩ W:=by
 simp [fieldPlace,sizeOf,typeInfo,h5,h6,Addr.add_lit]
theorem rd_faddrR {fs:Array Field} {fd:Field} {n i m:Nat} {f:Nat→CV} (ho:o.op=.fieldAddr t x i) (hx:s.eval x=.rp n f) (h1:P.underlying t=some (.struct fs)) (h2:fs[i]?=some fd)
  (h5:(P.info? fd.type).map (·.size)=some m) (h6:Nat.blt 0 m=true):ARd P G o s (.rp (n-fd.offset) fun j=>f (fd.offset+j)):=fun St a w h=>by
 obtain ⟨info,h5i,h7⟩:=Option.map_eq_some_iff.1 h5
 subst h7
 clear h5
 obtain ⟨b,q,e,hb,hf⟩:=evR h hx
 refine ⟨.pointer (some ⟨b,q+fd.offset,none⟩),fun W _=>?_,b,q+fd.offset,rfl,hb,fun j hj=>?_⟩
 ·simp only [execOp,ho,e]
  refine vOk ?_
  simp [Instr.fieldAt,underlying,h1,h2,Instr.sureAddr,run_fieldPlace h5i (show info.size≠0 by have:=Nat.le_of_ble_eq_true h6;omega)]
 ·rw [Nat.add_assoc];exact hf _ (by omega)
theorem rd_faddrO {fs:Array Field} {fd:Field} {i j off m:Nat} {g:Option Nat} (ho:o.op=.fieldAddr t x i) (hx:s.eval x=.op j g off) (h1:P.underlying t=some (.struct fs)) (h2:fs[i]?=some fd)
  (h5:(P.info? fd.type).map (·.size)=some m) (h6:Nat.blt 0 m=true):ARd P G o s (.op j g (off+fd.offset)):=fun St a w h=>by
 obtain ⟨info,h5i,h7⟩:=Option.map_eq_some_iff.1 h5
 subst h7
 clear h5
 obtain ⟨b,rfl,e⟩:=evR h hx
 refine ⟨.pointer (some ⟨b,off+fd.offset,none⟩),fun W _=>?_,b,rfl,rfl⟩
 simp only [execOp,ho,e]
 refine vOk ?_
 simp [Instr.fieldAt,underlying,h1,h2,Instr.sureAddr,run_fieldPlace h5i (show info.size≠0 by have:=Nat.le_of_ble_eq_true h6;omega)]

theorem addr_add (b q m:Nat):Addr.add ⟨b,q,none⟩ m=⟨b,q+m,none⟩:=Addr.add_lit b q m
theorem rd_iaddrR {e:TypeId} {n m i:Nat} {f:Nat→Nat→CV} {z:Int} (ho:o.op=.indexAddr t x y) (hx:s.eval x=.rs m n f) (hy:s.eval y=.c (.int k z)) (h1:P.underlying t=some (.slice e))
  (h5:(P.info? e).map (·.size)=some m) (hz:z=(i:Int)) (hi:i<n) (hm:0<m):ARd P G o s (.rp m (f i)):=fun St a w h=>by
 obtain ⟨info,h5i,h6⟩:=Option.map_eq_some_iff.1 h5
 obtain ⟨ao,cap,e0,h2,h3,h4,h7⟩:=evR h hx
 have ey:a.eval y=.int k z:=evC h hy
 cases ao with
 | none=>have:=h4 rfl;omega
 | some ad =>
  obtain ⟨b,q,sp⟩:=ad
  obtain ⟨h8,h9,h10⟩:=h7 _ rfl (by omega)
  simp only at h8 h9
  subst h8
  refine ⟨.pointer (some ⟨b,q+i * m,none⟩),fun W _=>?_,b,q+i * m,rfl,h9,fun j hj=>?_⟩
  ·simp only [execOp,ho,e0,ey]
   refine vOk ?_
   subst hz
   simp [Instr.indexAt,asIntOf,underlying,h1,sizeOf,typeInfo,h5i,h6,hi,addr_add]
  grind
theorem rd_iaddrO {e:TypeId} {j off n m i:Nat} {g:Option Nat} {z:Int} (ho:o.op=.indexAddr t x y) (hx:s.eval x=.os j g off n m) (hy:s.eval y=.c (.int k z)) (h1:P.underlying t=some (.slice e))
  (h5:(P.info? e).map (·.size)=some m) (hz:z=(i:Int)) (hi:i<n):ARd P G o s (.op j g (off+i * m)):=fun St a w h=>by
 obtain ⟨info,h5i,h6⟩:=Option.map_eq_some_iff.1 h5
 obtain ⟨b,rfl,cap,e0⟩:∃ b,g=some b∧∃ cap,a.eval x=.slice (some ⟨b,off,none⟩) n cap:=by
  have he:=evR h hx
  cases g with
  | none=>have:=he.1;omega
  | some b=>obtain ⟨cap,e0,_⟩:=he;simp_all
 have ey:a.eval y=.int k z:=evC h hy
 refine ⟨.pointer (some ⟨b,off+i * m,none⟩),fun W _=>?_,b,rfl,rfl⟩
 simp only [execOp,ho,e0,ey]
 refine vOk ?_
 subst hz
 simp [Instr.indexAt,asIntOf,underlying,h1,sizeOf,typeInfo,h5i,h6,hi,addr_add]
theorem rd_iaddrA {e:TypeId} {j off n m i:Nat} {g:Option Nat} {z:Int} (ho:o.op=.indexAddr t x y) (hx:s.eval x=.op j g off) (hy:s.eval y=.c (.int k z)) (h1:P.underlying t=some (.array n e))
  (h5:(P.info? e).map (·.size)=some m) (hz:z=(i:Int)) (hi:i<n):ARd P G o s (.op j g (off+i * m)):=fun St a w h=>by
 obtain ⟨info,h5i,h6⟩:=Option.map_eq_some_iff.1 h5
 obtain ⟨b,rfl,e0⟩:=evR h hx
 have ey:a.eval y=.int k z:=evC h hy
 refine ⟨.pointer (some ⟨b,off+i * m,none⟩),fun W _=>?_,b,rfl,rfl⟩
 simp only [execOp,ho,e0,ey]
 refine vOk ?_
 subst hz
 simp [Instr.indexAt,asIntOf,underlying,h1,sizeOf,typeInfo,h5i,h6,hi,addr_add,Instr.sureAddr]
theorem rd_indexS {l:ByteArray} {i:Nat} {z:Int} (ho:o.op=.index t x y) (hx:s.eval x=.c (.string l)) (hy:s.eval y=.c (.int k z)) (h1:P.underlying t=some .string) (hz:z=(i:Int)) (hi:i<l.size):ARd P G o s (byF l.data.toList i):=fun St a w h=>by
 refine ⟨.int .u8 ((l.data.toList.getD i 0).toNat:Nat),fun W _=>?_,rfl⟩
 simp only [execOp,ho,evC h hx,evC h hy]
 refine vOk ?_
 subst hz
 have hi':i<l.data.size:=hi
 have e:l[i]?=some l.data[i]:=by
  rw [getElem?_pos l i hi];rfl
 simp_all [Instr.index,asIntOf,underlying]

theorem run_loadVar1 {d:TypeDesc} (h:P.underlying t=some d) (ha:aggB P t=false) {w:World} {p:Addr} {v:Value} (hc:w.cell? p=some v):(loadVar t p).run P w=.ok v w:=by
 simp [loadVar,run_isAgg h,ha,hc]
theorem run_loadVarA {d:TypeDesc} {info:TypeInfo} (h:P.underlying t=some d) (ha:aggB P t=true) (h5:P.info? t=some info) {w:World} {b q:Nat} {g:Nat→Value} (hc:∀ j,j<info.size→w.cell? ⟨b,q+j,none⟩=some (g j)) :
  (loadVar t ⟨b,q,none⟩).run P w=.ok (.agg ((List.range info.size).map g).toArray) w:=by
 simp_all [run_loadCells,addr_add,loadVar,run_isAgg,sizeOf,typeInfo]

theorem exec_load (ho:o.op=.load t x) {a:Act} {W:World} {p:Addr} {v:Value} (hp:a.eval x=.pointer (some p)) (hl:(loadVar t p).run P W=.ok v W):(execOp a.eval o).run P W=.ok (.value v) W:=by
 grind [execOp,vOk,Instr.loadAt,Instr.sureAddr]

theorem rd_loadR {d:TypeDesc} {n:Nat} {f:Nat→CV} {v:CV} (ho:o.op=.load t x) (hx:s.eval x=.rp n f) (h1:P.underlying t=some d) (ha:aggB P t=false) (hn:0<n) (hv:f 0=v):ARd P G o s v:=fun St a w h=>by
 obtain ⟨b,q,e,hb,hf⟩:=evR h hx
 obtain ⟨u,hu,hr⟩:=hf 0 hn
 refine ⟨u,fun W hW=>exec_load ho e (run_loadVar1 h1 ha ?_),hv ▸ hr⟩
 exact (cell_of_block (hW b hb) q).trans hu
theorem choose_cells {p:Nat→Value→Prop} {n:Nat} (h:∀ j,j<n→∃ v,p j v):∃ g:Nat→Value,∀ j,j<n→p j (g j):=by
 classical
 exact ⟨fun j=>if hj:j<n then (h j hj).choose else undef,fun j hj=>by grind⟩
theorem rd_loadRA {d:TypeDesc} {n m:Nat} {f:Nat→CV} (ho:o.op=.load t x) (hx:s.eval x=.rp n f) (h1:P.underlying t=some d) (ha:aggB P t=true) (h5:(P.info? t).map (·.size)=some m) (hn:m≤n):ARd P G o s (.agg m f):=fun St a w h=>by
 obtain ⟨info,h5i,h6⟩:=Option.map_eq_some_iff.1 h5
 obtain ⟨b,q,e,hb,hf⟩:=evR h hx
 obtain ⟨g,hg⟩:=choose_cells (fun j (hj:j<n)=>hf j hj)
 subst h6
 refine ⟨_,fun W hW=>exec_load ho e (run_loadVarA h1 ha h5i (g:=g) fun j hj=>?_),_,rfl,by simp,fun i hi=>?_⟩
 ·exact (cell_of_block (hW b hb) _).trans (hg j (by omega)).1
 ·simp [hi];grind

theorem blkCells {St:Nat→Prop} {a:Act} {w:World} (h:RelSt G St s a w) {i g n:Nat} {f:Nat→CV} (hH:s.H[i]?=some (some g,.blk n f)) :
  g<w.heap.size∧∃ cur t z,w.heap[g]?=some (.cells cur t z)∧n≤cur.size∧∀ j,j<n→RepC G.al St w (f j) (cur.getD j undef):=by
 obtain ⟨fp,hp⟩:=h.hp
 obtain ⟨h0,cur,t,h1,h2,h4⟩:=hp.rep i (some g) _ hH
 grind
theorem frzCells {St:Nat→Prop} {a:Act} {w:World} (h:RelSt G St s a w) {i g n:Nat} {f:Nat→CV} (hH:s.H[i]?=some (some g,.frz n f)) :
  g<w.heap.size∧∃ cur t z,w.heap[g]?=some (.cells cur t z)∧n≤cur.size∧∀ j,j<n→RepC G.al St w (f j) (cur.getD j undef):=by
 obtain ⟨fp,hp⟩:=h.hp
 obtain ⟨h0,hg,h1⟩:=hp.rep i (some g) _ hH
 grind
def Holds (s:AS) (i:Nat) (g:Option Nat) (n:Nat) (f:Nat→CV):Prop:=s.H[i]?=some (g,.blk n f)∨s.H[i]?=some (g,.frz n f)
theorem holdCells {St:Nat→Prop} {a:Act} {w:World} (h:RelSt G St s a w) {i g n:Nat} {f:Nat→CV} (hH:Holds s i (some g) n f) :
  g<w.heap.size∧∃ cur t z,w.heap[g]?=some (.cells cur t z)∧n≤cur.size∧∀ j,j<n→RepC G.al St w (f j) (cur.getD j undef):=by
 rcases hH with hH|hH
 ·exact blkCells h hH
 ·exact frzCells h hH
theorem rd_loadO {d:TypeDesc} {i off n:Nat} {g:Option Nat} {f:Nat→CV} {v:CV} (ho:o.op=.load t x) (hx:s.eval x=.op i g off) (hH:Holds s i g n f) (h1:P.underlying t=some d) (ha:aggB P t=false) (hn:off<n) (hv:f off=v):ARdO P G o s v:=fun St a w h=>by
 obtain ⟨b,rfl,e⟩:=evR h hx
 obtain ⟨hg,cur,ty,z,hh,hle,hc⟩:=holdCells h hH
 have hlt:off<cur.size:=by omega
 have hcell:w.cell? ⟨b,off,none⟩=some (cur.getD off undef):=by
  rw [cell_of_row w b off cur ty z hh];simp [hlt]
 refine ⟨_,fun W hW=>exec_load ho e (run_loadVar1 h1 ha ?_),hv ▸ hc off hn⟩
 exact (cell_of_block (hW.block b hg) off).trans hcell
theorem rd_loadOA {d:TypeDesc} {i off n m:Nat} {g:Option Nat} {f:Nat→CV} (ho:o.op=.load t x) (hx:s.eval x=.op i g off) (hH:Holds s i g n f) (h1:P.underlying t=some d) (ha:aggB P t=true) (h5:(P.info? t).map (·.size)=some m) (hn:off+m≤n):ARdO P G o s (.agg m fun j=>f (off+j)):=fun St a w h=>by
 obtain ⟨info,h5i,h6⟩:=Option.map_eq_some_iff.1 h5
 obtain ⟨b,rfl,e⟩:=evR h hx
 obtain ⟨hg,cur,ty,z,hh,hle,hc⟩:=holdCells h hH
 subst h6
 refine ⟨_,fun W hW=>exec_load ho e (run_loadVarA h1 ha h5i (g:=fun j=>cur.getD (off+j) undef) fun j hj=>?_),_,rfl,by simp,fun j hj=>?_⟩
 ·have hlt:off+j<cur.size:=by omega
  have hcell:w.cell? ⟨b,off+j,none⟩=some (cur.getD (off+j) undef):=by
   rw [cell_of_row w b (off+j) cur ty z hh];simp [hlt]
  exact (cell_of_block (hW.block b hg) _).trans hcell
 ·have:=hc (off+j) (by omega)
  simp_all
theorem rd_loadE (i:Nat) [h0:HasE G.gs i] {d:TypeDesc} {g:Nat} (ho:o.op=.load t (.global g)) (hg:gs[i]?=some g) (h1:P.underlying t=some d) (ha:aggB P t=false):ARd P G o s (.err (i+1)):=fun St a w h=>by
 have hl:=h0.lt g hg
 have hg:(errG G.gs)[i]?=some g:=by rw [h0.eq];exact hg
 have hc:=h.sn.var i g hg hl
 refine ⟨_,fun W hW=>exec_load ho (p:=⟨g,0,none⟩) rfl (run_loadVar1 h1 ha ?_),rfl⟩
 exact (cell_of_block (hW g (h.sg.1 g hl)) 0).trans hc

theorem rd_nilO {i off:Nat} {g:Option Nat} (ho:o.op=.nilCheck x) (hx:s.eval x=.op i g off):ARd P G o s (.op i g off):=fun St a w h=>by
 obtain ⟨b,rfl,e⟩:=evR h hx
 exact ⟨_,fun W _=>by simp only [execOp,ho,e];rfl,b,rfl,rfl⟩
theorem rd_nilR {n:Nat} {f:Nat→CV} (ho:o.op=.nilCheck x) (hx:s.eval x=.rp n f):ARd P G o s (.rp n f):=fun St a w h=>by
 obtain ⟨b,q,e,hb,hf⟩:=evR h hx
 exact ⟨_,fun W _=>by simp only [execOp,ho,e];rfl,b,q,rfl,hb,hf⟩
theorem rd_nilF {n:Nat} {g:FuncId} {f:Nat→CV} (ho:o.op=.nilCheck x) (hx:s.eval x=.fn g n f):ARd P G o s (.fn g n f):=fun St a w h=>by
 obtain ⟨cs,e,hn,hf⟩:=evR h hx
 exact ⟨_,fun W _=>by simp only [execOp,ho,e];rfl,cs,rfl,hn,hf⟩

theorem rd_pickT {z x' y':Operand} {v:CV} (ho:o.op=.pick z x' y') (hz:s.eval z=.c (.bool true)) (hx:s.eval x'=v):ARd P G o s v:=fun St a w h =>
 ⟨a.eval x',fun W _=>by simp only [execOp,ho,evC h hz];simp [asBool],evR h hx⟩
theorem rd_pickF {z x' y':Operand} {v:CV} (ho:o.op=.pick z x' y') (hz:s.eval z=.c (.bool false)) (hy:s.eval y'=v):ARd P G o s v:=fun St a w h =>
 ⟨a.eval y',fun W _=>by simp only [execOp,ho,evC h hz];simp [asBool],evR h hy⟩
end
end
section
section
variable {P:Program} {G:Gh} {ops:Array Oper} {o:Oper} {s:AS} {K:AS→Prop} {t u:TypeId} {x y:Operand} {k:IntKind}

def AS.with (s:AS) (dst:Option Tmp) (v:CV) (H:List (Option Nat×Res)):AS:=⟨(s.put dst v).env,s.b,H⟩

theorem HFoot.len {al:List Addr} {St:Nat→Prop} {w:World} {base:Nat} {F0:Nat→Prop} {H:List (Option Nat×Res)} {fp:Nat→Nat→Prop} (h:HFoot al St w base F0 H fp) {i b:Nat} (hb:fp i b):i<H.length:=by
 rcases Nat.lt_or_ge i H.length with h1|h1
 ·exact h1
 ·exact absurd hb (h.out i h1 b)

theorem RelSt.fresh {St:Nat→Prop} {a:Act} {w w':World} (h:RelSt G St s a w) (hb:Below w.heap.size w w') {g:Nat} (hg:w.heap.size≤g) {cs:Array Value} {ty:TypeId} (hc:w'.heap[g]?=some (.cells cs ty (0,0)))
  {n:Nat} {f:Nat→CV} (hn:n≤cs.size) (hf:∀ j,j<n→RepC G.al St w' (f j) (cs.getD j undef)):RelSt G St ⟨s.env,s.b,s.H++[(some g,.blk n f)]⟩ a w':=by
 have h1:=h.ext hb
 have hlt:g<w'.heap.size:=(Array.getElem?_eq_some_iff.1 hc).1
 refine ⟨h1.df,h1.sz,h1.env,h1.un,h1.s1,h1.s2,h1.s3,?_,h1.sn,h1.sg⟩
 obtain ⟨fp,hp⟩:=h.hp
 obtain ⟨fp1,hp1⟩:=h1.hp
 have he:Evo St w w':=Evo.of_below hb h.s3
 have hnew:∀ i,¬ fp i g:=fun i hi=>by have:=(hp.own i g hi).1;omega
 refine ⟨fun i b=>if i=s.H.length then b=g else fp i b,fun i q r hi=>?_,fun i j b h2 h3=>?_,fun i b h2=>?_,fun i hi b h2=>?_⟩
 ·by_cases e:i=s.H.length
  ·subst e
   simp at hi
   obtain ⟨rfl,rfl⟩:=hi
   exact ⟨fun b=>by simp,cs,ty,hc,hn,hf⟩
  ·have hi':s.H[i]?=some (q,r):=by
    rcases Nat.lt_or_ge i s.H.length with h4|h4
    ·grind
    ·grind
   have e2:(fun b=>if i=s.H.length then b=g else fp i b)=fp i:=funext fun b=>by simp [e]
   show r.rep G.al St w' (fun b=>if i=s.H.length then b=g else fp i b) q
   rw [e2]
   exact Res.rep_evo he (fun _ x=>x) (fun b hF=>hb.block b (hp.own i b hF).1) (hp.rep i q r hi')
 ·by_cases e1:i=s.H.length <;> by_cases e2:j=s.H.length
  ·omega
  ·simp_all
  ·simp_all
  ·simp only [e1,e2,if_false] at h2 h3;exact hp.dis i j b h2 h3
 ·by_cases e:i=s.H.length
  ·simp only [e,if_true] at h2
   subst h2
   exact ⟨hlt,fun hs=>by have:=h.s3 _ hs;omega,.inl (Nat.le_trans h.un.size hg)⟩
  ·simp only [e,if_false] at h2
   obtain ⟨h3,h4,h5⟩:=hp.own i b h2
   grind
 ·have e:i≠s.H.length:=by simp at hi;omega
  simp only [e,if_false] at h2
  exact hp.out i (by simp at hi;omega) b h2

theorem below_alloc (w:World) (x:Obj):Below w.heap.size w (w.alloc x):=(Below.refl _ _).alloc (Nat.le_refl _) _

theorem AEx.new {n:Nat} {f:Nat→CV} (hd:dstOk G o=true) (v:Option Nat→CV)
  (h:∀ St a w,RelSt G St s a w→∃ w' g cs ty x,(execOp a.eval o).run P w=.ok (.value x) w'∧Below w.heap.size w w'∧w.heap.size≤g∧w'.heap[g]?=some (.cells cs ty (0,0))∧n≤cs.size∧(∀ j,j<n→RepC G.al St w' (f j) (cs.getD j undef))∧RepC G.al St w' (v (some g)) x)
  (hK:∀ g,K (s.with o.dst (v g) (s.H++[(g,.blk n f)]))):AEx P G o s K:=fun St a w hr Q=>by
 obtain ⟨w',g,cs,ty,x,h1,h2,h3,h4,h5,h6,h7⟩:=h St a w hr
 unfold Oper.wp
 rw [h1]
 refine ⟨h2,St,fun _ h=>h,_,hK (some g),?_⟩
 have:=(hr.fresh h2 h3 h4 h5 h6).put (dst:=o.dst) (v:=v (some g)) (x:=x) (dst_of hd) h7
 cases ho:o.dst with
 | none=>rw [ho] at this;exact this
 | some d=>rw [ho] at this;exact this

theorem ex_alloc {z:Value} {n:Nat} (ho:o.op=.alloc t) (hz:(P.info? t).map (·.zero)=some (some z)) (hn:z.cells.size=n) (hd:dstOk G o=true)
  (hK:∀ g,K (s.with o.dst (.op s.H.length g 0) (s.H++[(g,.blk n fun j=>.c (z.cells.getD j undef))]))):AEx P G o s K :=
 AEx.new hd (fun g=>.op s.H.length g 0) (fun St a w hr=>by
  obtain ⟨info,hi,hz⟩:=Option.map_eq_some_iff.1 hz
  refine ⟨w.alloc (.cells z.cells t),w.heap.size,z.cells,t,.pointer (some ⟨w.heap.size,0,none⟩),?_,below_alloc w _,Nat.le_refl _,heap_alloc_new w _,by omega,fun j _=>rfl,_,rfl,rfl⟩
  simp_all [execOp,Instr.alloc,zeroValue,typeInfo,newVar,newRow]) hK

def cellsC:CV→Option (List CV)
 | .agg n f=>some ((List.range n).map f)
 | .c (.tuple _)=>none
 | .c v=>some (v.cells.toList.map .c)
 | .top=>none
 | .tup _ _=>none
 | x=>some [x]
def RepL (al:List Addr) (St:Nat→Prop) (w:World) (l:List CV) (cs:Array Value):Prop:=cs.size=l.length∧∀ i,i<l.length→RepC al St w (fl l i) (cs.getD i undef)

theorem fl_get:∀ (l:List CV) (i:Nat),fl l i=l.getD i .top
 | [],i=>by simp [fl]
 | x::r,0=>rfl
 | x::r,i+1=>by rw [fl,fl_get r i];simp
theorem repL_one {al:List Addr} {St:Nat→Prop} {w:World} {c:CV} {v:Value} (h:RepC al St w c v):RepL al St w [c] #[v] :=
 ⟨rfl,fun i hi=>by
  have:i=0:=by simp at hi;omega
  subst this
  exact h⟩
theorem cells_rep {al:List Addr} {St:Nat→Prop} {w:World}:∀ {c:CV} {v:Value} {l:List CV},RepC al St w c v→cellsC c=some l→RepL al St w l v.cells
 | .agg n f,v,l,⟨cs,h1,h2,h3⟩,hc=>by
  simp only [cellsC,Option.some.injEq] at hc
  subst hc h1
  refine ⟨by simp [Value.cells,h2],fun i hi=>?_⟩
  grind [fl_get,Value.cells]
 | .c u,v,l,h,hc=>by
  have h:v=u:=h
  subst h
  have key:∀ l',cellsC (.c v)=some l'→l'=v.cells.toList.map .c:=by
   intro l' h'
   cases v <;> simp [cellsC] at h' <;> exact h'.symm
  rw [key l hc]
  refine ⟨by simp,fun i hi=>?_⟩
  have hi:i<v.cells.size:=by simpa using hi
  rw [fl_get]
  simp [List.getD,hi]
  rfl
 | .err n,v,l,h,hc=>by
  simp only [cellsC,Option.some.injEq] at hc
  subst hc
  have h':v=ev al n:=h
  have e:v.cells=#[v]:=by subst h';unfold ev;split <;> rfl
  grind [repL_one]
 | .rs k n f,v,l,h,hc=>by
  simp only [cellsC,Option.some.injEq] at hc
  subst hc
  have e:v.cells=#[v]:=by obtain ⟨ao,cap,h1,_⟩:=h;subst h1;rfl
  grind [repL_one]
 | .rp n f,v,l,h,hc=>by
  simp only [cellsC,Option.some.injEq] at hc
  subst hc
  have e:v.cells=#[v]:=by obtain ⟨b,q,h1,_⟩:=h;subst h1;rfl
  grind [repL_one]
 | .os i none off n k,v,l,h,hc=>by
  simp only [cellsC,Option.some.injEq] at hc
  subst hc
  have e:v.cells=#[v]:=by rw [h.2];rfl
  grind [repL_one]
 | .os i (some g) off n k,v,l,h,hc=>by
  simp only [cellsC,Option.some.injEq] at hc
  subst hc
  have e:v.cells=#[v]:=by obtain ⟨cap,h1,_⟩:=h;rw [h1];rfl
  grind [repL_one]
 | .op i g off,v,l,h,hc=>by
  simp only [cellsC,Option.some.injEq] at hc
  subst hc
  have e:v.cells=#[v]:=by obtain ⟨b,_,h1⟩:=h;rw [h1];rfl
  grind [repL_one]
 | .pv p,v,l,h,hc=>by
  simp only [cellsC,Option.some.injEq] at hc
  subst hc
  rw [(p.one h).1]
  exact repL_one (c:=.pv p) h
 | .fn g n f,v,l,h,hc=>by
  simp only [cellsC,Option.some.injEq] at hc
  subst hc
  have e:v.cells=#[v]:=by obtain ⟨cs,h1,_⟩:=h;rw [h1];rfl
  grind [repL_one]

theorem ex_box {n:Nat} {c:CV} {l:List CV} (ho:o.op=.box t x) (hx:s.eval x=c) (hl:cellsC c=some l) (hn:l.length=n) (hd:dstOk G o=true)
  (hK:∀ g,K (s.with o.dst (.op s.H.length g 0) (s.H++[(g,.blk n (fl l))]))):AEx P G o s K :=
 AEx.new hd (fun g=>.op s.H.length g 0) (fun St a w hr=>by
  have hr':=cells_rep (evR hr hx) hl
  refine ⟨w.alloc (.cells (a.eval x).cells t),w.heap.size,(a.eval x).cells,t,.pointer (some ⟨w.heap.size,0,none⟩),?_,below_alloc w _,Nat.le_refl _,heap_alloc_new w _,by rw [hr'.1];omega,fun j hj=>?_,_,rfl,rfl⟩
  ·simp_all [execOp,Instr.box,newVar,newRow]
  ·exact RepC.evo (Evo.of_below (below_alloc w _) hr.s3) (fun _ h=>h) _ _ (hr'.2 j (by omega))) hK

def setAt:List CV→Nat→List CV→List CV
 | cs,_,[]=>cs
 | cs,i,x::r=>setAt (cs.set i x) (i+1) r
def fillC (place:Nat→Option (Nat×Nat)):List CV→List (Nat×CV)→Option (List CV)
 | cs,[]=>some cs
 | cs,(i,v)::r =>
  match place i,cellsC v with
  | some (off,size),some l=>if l.length≠size || off+l.length>cs.length then none else fillC place (setAt cs off l) r
  | _,_=>none

theorem repL_set {al:List Addr} {St:Nat→Prop} {w:World} {l:List CV} {cs:Array Value} {c:CV} {v:Value} (h:RepL al St w l cs) (i:Nat) (hv:RepC al St w c v):RepL al St w (l.set i c) (cs.setIfInBounds i v):=by
 refine ⟨by simp [h.1],fun j hj=>?_⟩
 have hj:j<l.length:=by simpa using hj
 rw [fl_get]
 have hjc:j<cs.size:=by rw [h.1];exact hj
 by_cases e:i=j
 ·simp_all
 ·have:=h.2 j hj
  simp_all [fl_get]
theorem repL_setAt {al:List Addr} {St:Nat→Prop} {w:World}:∀ (vs:List Value) (ls:List CV) (l:List CV) (cs:Array Value) (off j:Nat),RepL al St w l cs→vs.length=ls.length→(∀ i,i<ls.length→RepC al St w (fl ls i) (vs.getD i undef)) →
  RepL al St w (setAt l (off+j) ls) ((vs.zipIdx j).foldl (fun cs (c,j)=>cs.setIfInBounds (off+j) c) cs)
 | [],[],_,_,_,_,h,_,_=>h
 | [],_::_,_,_,_,_,_,hl,_=>by simp at hl
 | _::_,[],_,_,_,_,_,hl,_=>by simp at hl
 | v::vs,c::ls,l,cs,off,j,h,hl,hv=>by
  simp only [setAt,List.zipIdx_cons,List.foldl_cons]
  have h0:=hv 0 (by simp)
  have:=repL_setAt vs ls (l.set (off+j) c) (cs.setIfInBounds (off+j) v) off (j+1) (repL_set h _ h0) (by simpa using hl) (fun i hi=>by
   have:=hv (i+1) (by simp;omega)
   simpa [fl] using this)
  rw [← Nat.add_assoc] at this
  exact this
theorem fill_rep {al:List Addr} {St:Nat→Prop} {w:World} {place:Nat→Option (Nat×Nat)}:∀ (ps:List (Nat×Value)) (qs:List (Nat×CV)) (l:List CV) (cs:Array Value) (l':List CV),RepL al St w l cs→ps.length=qs.length →
  (∀ i,i<qs.length→(ps.getD i (0,undef)).1=(qs.getD i (0,.top)).1∧RepC al St w (qs.getD i (0,.top)).2 (ps.getD i (0,undef)).2)→fillC place l qs=some l'→∃ cs',Instr.fill place cs ps=some cs'∧RepL al St w l' cs'
 | [],[],l,cs,l',h,_,_,hf=>by
  simp only [fillC,Option.some.injEq] at hf
  subst hf
  exact ⟨cs,rfl,h⟩
 | [],_::_,_,_,_,_,hl,_,_=>by simp at hl
 | _::_,[],_,_,_,_,hl,_,_=>by simp at hl
 |(i,v)::ps,(j,c)::qs,l,cs,l',h,hl,hv,hf=>by
  obtain ⟨h1,h2⟩:=hv 0 (by simp)
  simp at h1 h2
  subst h1
  rw [fillC] at hf
  split at hf
  ·rename_i off size ls hp hc
   split at hf
   ·cases hf
   ·rename_i hcond
    simp at hcond
    have hr:=cells_rep h2 hc
    obtain ⟨cs',h3,h4⟩:=fill_rep (place:=place) ps qs (setAt l off ls) (v.cells.zipIdx.foldl (fun cs (c,j)=>cs.setIfInBounds (off+j) c) cs) l' (by
     have:=repL_setAt (al:=al) (St:=St) (w:=w) v.cells.toList ls l cs off 0 h (by simpa using hr.1) (fun i hi=>by
      have:=hr.2 i hi
      simpa [List.getD] using this)
     rw [Nat.add_zero] at this
     rw [← Array.foldl_toList,Array.toList_zipIdx]
     exact this) (by simpa using hl) (fun i hi=>by
      have:=hv (i+1) (by simp;omega)
      simpa using this) hf
    refine ⟨cs',?_,h4⟩
    rw [Instr.fill]
    simp only [hp]
    rw [if_neg (by simp [hr.1,h.1];omega)]
    exact h3
  ·cases hf

def plOf (P:Program) (t:TypeId):Option (List (Nat×Nat)):=match P.underlying t with
 | some (.struct fs)=>fs.toList.mapM fun f=>(P.info? f.type).map fun i=>(f.offset,i.size)
 | _=>none
theorem run_places:∀ (fs:List Field) (pl:List (Nat×Nat)) (W:World),(fs.mapM fun f=>(P.info? f.type).map fun i=>(f.offset,i.size))=some pl→(fs.mapM fun f=>do pure (f.offset,← sizeOf f.type):Sem (List (Nat×Nat))).run P W=.ok pl W
 | [],pl,W,h=>by simp at h;subst h;rfl
 | f::fs,pl,W,h=>by
  simp only [List.mapM_cons,Option.bind_eq_bind,Option.bind_eq_some_iff] at h
  obtain ⟨a,ha,pl',h2,h3⟩:=h
  obtain ⟨info,hi,rfl⟩:=Option.map_eq_some_iff.1 ha
  have ih:=run_places fs pl' W h2
  simp at h3
  subst h3
  simp [List.mapM_cons,sizeOf,typeInfo,hi] at ih ⊢
  rw [ih]
  rfl

theorem rd_build {z:Value} {pl:List (Nat×Nat)} {parts:Array (Nat×Operand)} {l:List CV} {n:Nat} (ho:o.op=.build t parts) (hz:(P.info? t).map (·.zero)=some (some z)) (hp:plOf P t=some pl)
  (hf:fillC (pl[·]?) (z.cells.toList.map .c) (parts.toList.map fun p=>(p.1,s.eval p.2))=some l) (hn:l.length=n):ARd P G o s (.agg n (fl l)):=fun St a w h=>by
 obtain ⟨info,hi,hz⟩:=Option.map_eq_some_iff.1 hz
 unfold plOf at hp
 split at hp
 ·rename_i fs hu
  obtain ⟨cs',h1,h2⟩:=fill_rep (al:=G.al) (St:=St) (w:=w) (parts.toList.map fun p=>(p.1,a.eval p.2)) _ (z.cells.toList.map .c) z.cells l ⟨by simp,fun i hi=>by
    have hi:i<z.cells.size:=by simpa using hi
    rw [fl_get];simp [List.getD,hi];rfl⟩ (by simp) (fun i hi=>by
    have hi:i<parts.size:=by simpa using hi
    simp [List.getD,hi]
    exact h.eval _) hf
  refine ⟨.agg cs',fun W _=>?_,cs',rfl,by rw [h2.1,hn],fun i hi=>h2.2 i (by omega)⟩
  simp only [execOp,ho]
  refine vOk ?_
  have hr:=run_places (P:=P) fs.toList pl W hp
  have e:(fs.mapM fun f=>do pure (f.offset,← sizeOf f.type):Sem (Array (Nat×Nat))).run P W=.ok pl.toArray W:=by
   rw [Array.mapM_eq_mapM_toList]
   simp only [Sem.run_map,hr,Result.andThen_ok]
  simp_all [Instr.build,zeroValue,typeInfo,underlying]
 ·cases hp

theorem ex_buildSlice {e:TypeId} {z:Value} {len m:Nat} {parts:Array (Nat×Operand)} {l:List CV} {n:Nat} (ho:o.op=.buildSlice t len parts) (h1:P.underlying t=some (.slice e)) (h5:(P.info? e).map (·.size)=some m) (hz:(P.info? e).map (·.zero)=some (some z))
  (hm:Nat.ble (len * m) 16777216=true) (hlen:Nat.ble len 16777216=true) (hf:fillC (fun i=>some (i * m,m)) ((List.range (len * m)).map fun i=>.c (z.cells[i % z.cells.size]!)) (parts.toList.map fun p=>(p.1,s.eval p.2))=some l) (hn:l.length=n) (hle:n=len * m) (hd:dstOk G o=true)
  (hK:∀ g,K (s.with o.dst (.os s.H.length g 0 len m) (s.H++[(g,.blk n (fl l))]))):AEx P G o s K :=
 AEx.new hd (fun g=>.os s.H.length g 0 len m) (fun St a w hr=>by
  obtain ⟨info,hi,h6⟩:=Option.map_eq_some_iff.1 h5
  obtain ⟨info',hi',hz⟩:=Option.map_eq_some_iff.1 hz
  obtain rfl:=Option.some.inj (hi.symm.trans hi')
  have hm':len * m≤16777216:=Nat.le_of_ble_eq_true hm
  let zs:Array Value:=if len * m=0 then #[] else z.cells
  obtain ⟨cs',h2,h3⟩:=fill_rep (al:=G.al) (St:=St) (w:=w) (parts.toList.map fun p=>(p.1,a.eval p.2)) _ _ ((Array.range (len * m)).map (z.cells[· % z.cells.size]!)) l ⟨by simp,fun i hi=>by
    have hi:i<len * m:=by simpa using hi
    rw [fl_get];simp [List.getD,hi];rfl⟩ (by simp) (fun i hi=>by
    have hi:i<parts.size:=by simpa using hi
    simp [List.getD,hi]
    exact hr.eval _) hf
  refine ⟨w.alloc (.cells cs' e),w.heap.size,cs',e,.slice (some ⟨w.heap.size,0,none⟩) len len,?_,below_alloc w _,Nat.le_refl _,heap_alloc_new w _,by rw [h3.1];omega,fun j hj=>?_,len,rfl,Nat.le_refl _,?_,cs',e,(0,0),heap_alloc_new w _,?_⟩
  ·simp only [execOp,ho]
   refine vOk ?_
   have e0:(Array.range (len * m)).map (zs[· % zs.size]!)=(Array.range (len * m)).map (z.cells[· % z.cells.size]!):=by
    by_cases h0:len * m=0
    ·simp [h0]
    ·simp only [zs,h0,if_false]
   have h2':Instr.fill (fun i=>some (i * m,m)) ((Array.range (len * m)).map (zs[· % zs.size]!)) (parts.map fun p=>(p.1,a.eval p.2)).toList=some cs':=by rw [e0];simpa using h2
   simp only [Instr.buildSlice,underlying,Sem.run_bind,run_program,Result.andThen_ok,h1,Sem.run_pure,sizeOf,typeInfo,hi,h6]
   rw [if_neg (show ¬ len * m>2 ^ 24 by omega)]
   by_cases h0:len * m=0
   ·simp only [h0,if_true] at h2' ⊢
    simp only [zs,h0,if_true] at h2'
    simp only [Sem.run_bind,Sem.run_pure,Result.andThen_ok,h2',newRow,run_newObj,World.alloc_eq]
   simp_all [zeroValue,typeInfo,newRow]
  ·exact RepC.evo (Evo.of_below (below_alloc w _) hr.s3) (fun _ h=>h) _ _ (h3.2 j (by omega))
  ·have:=Nat.le_of_ble_eq_true hlen;omega
  ·rw [h3.1];omega) hK
end
end
section
section
variable {P:Program} {G:Gh} {ops:Array Oper} {o:Oper} {s:AS} {K:AS→Prop} {t u:TypeId} {x y:Operand} {k:IntKind}

def calleeB (P : Program) (f : FuncId) : Bool := match P.funcs[f]? with | some fn => fn.body.isSome && !(fn.name == "runtime.NumGoroutine") | none => false
theorem run_enter {f:FuncId} (hc:calleeB P f=true) (args:Array Value) (W:World):(callFunc f args).run P W=.ok (.enter f args) W:=by
 unfold calleeB at hc
 split at hc
 ·rename_i fn hf
  simp only [Bool.and_eq_true,Bool.not_eq_true'] at hc
  obtain ⟨h1,h2⟩:=hc
  have h3:fn.body.isNone=false:=by cases hb:fn.body <;> simp_all
  have h4 : ¬ fn.name = "runtime.NumGoroutine" := by simpa using h2
  have h5:¬ fn.body=none:=fun h=>by rw [h] at h1;cases h1
  simp [callFunc,hf,h4,h5]
 ·cases hc

theorem exec_call {f:FuncId} {xs:Array Operand} {ats:Array TypeId} (ho:o.op=.call ⟨.value (.func f),xs,ats⟩) (hc:calleeB P f=true) (a:Act) (W:World) :
  (execOp a.eval o).run P W=.ok (.enter f (xs.map a.eval)) W:=by
 have e:a.eval (.func f)=.func (.func f) #[] #[]:=rfl
 simp [execOp,ho,resolve,e,Deferred.ofValue,invoke,run_enter hc]
theorem exec_callv {f:FuncId} {v:Operand} {cs:Array Value} {xs:Array Operand} {ats:Array TypeId} (ho:o.op=.call ⟨.value v,xs,ats⟩) (hc:calleeB P f=true) (a:Act) (hv:a.eval v=.func (.func f) #[] cs) (W:World) :
  (execOp a.eval o).run P W=.ok (.enter f (xs.map a.eval++cs)) W:=by
 simp [execOp,ho,resolve,hv,Deferred.ofValue,invoke,run_enter hc]

theorem entL_len {l m:List CV} (h:EntL l m):l.length=m.length:=by
 induction h with
 | nil=>rfl
 | cons _ _ ih=>simp [ih]
theorem entL_get {l m:List CV} (h:EntL l m):∀ i,CEnt (fl l i) (fl m i):=by
 induction h with
 | nil=>exact fun i=>cZ
 | cons h1 _ ih =>
  intro i
  cases i with
  | zero=>exact h1
  | succ i=>exact ih i
theorem fl_append (l m:List CV) (i:Nat):fl (l++m) i=if i<l.length then fl l i else fl m (i-l.length):=by
 grind [fl_get]

theorem RelSt.after {St St':Nat→Prop} {a:Act} {w w':World} (h:RelSt G St s a w) {H':List (Option Nat×Res)} (hu:Under (fun _=>False) w w') (h1:∀ b,St b→St' b) (h2:∀ b,St' b→St b∨w.heap.size≤b∨False) (h3:∀ b,St' b→b<w'.heap.size) (hp':HRel G.al St' w' w.heap.size (fun _=>False) H') :
  RelSt G St' ⟨s.env,s.b,s.H++H'⟩ a w':=by
 have hb:=hu.below
 have he:Evo St w w':=Evo.of_below hb h.s3
 obtain ⟨fp,hp⟩:=h.hp
 obtain ⟨fp',hp'⟩:=hp'
 refine ⟨h.df.keep h1 (fun b hb'=>hb.block b (h.s3 b hb')),h.sz,fun d=>RepC.evo he h1 _ _ (h.env d),h.un.then hb,fun b hs=>h1 b (h.s1 b hs),fun b hs=>?_,h3,?_,?_,fun g hg=>h1 g (h.sg.1 g hg),fun x hx=>h1 _ (h.sg.2 x hx)⟩
 ·rcases h2 b hs with hs|hs|hs
  ·exact h.s2 b hs
  ·exact .inr (.inl (Nat.le_trans h.un.size hs))
  ·exact hs.elim
 ·refine ⟨fun i b=>(i<s.H.length∧fp i b)∨(s.H.length≤i∧fp' (i-s.H.length) b),fun i q r hi=>?_,fun i j b hi hj=>?_,fun i b hi=>?_,fun i hi b hb'=>?_⟩
  ·by_cases hl:i<s.H.length
   ·rw [List.getElem?_append_left hl] at hi
    have e:(fun b=>(i<s.H.length∧fp i b)∨(s.H.length≤i∧fp' (i-s.H.length) b))=fp i:=funext fun b=>propext ⟨fun h=>h.elim (fun h=>h.2) (fun h=>by omega),fun h=>.inl ⟨hl,h⟩⟩
    show r.rep G.al St' w' (fun b=>(i<s.H.length∧fp i b)∨(s.H.length≤i∧fp' (i-s.H.length) b)) q
    rw [e]
    exact Res.rep_evo he h1 (fun b hF=>hb.block b (hp.own i b hF).1) (hp.rep i q r hi)
   ·rw [List.getElem?_append_right (by omega)] at hi
    have e:(fun b=>(i<s.H.length∧fp i b)∨(s.H.length≤i∧fp' (i-s.H.length) b))=fp' (i-s.H.length):=funext fun b=>propext ⟨fun h=>h.elim (fun h=>by omega) (fun h=>h.2),fun h=>.inr ⟨by omega,h⟩⟩
    show r.rep G.al St' w' (fun b=>(i<s.H.length∧fp i b)∨(s.H.length≤i∧fp' (i-s.H.length) b)) q
    rw [e]
    exact hp'.rep _ q r hi
  ·rcases hi with ⟨a1,a2⟩|⟨a1,a2⟩ <;> rcases hj with ⟨b1,b2⟩|⟨b1,b2⟩
   ·exact hp.dis i j b a2 b2
   ·have c1:=(hp.own i b a2).1
    rcases (hp'.own _ b b2).2.2 with c2|c2
    ·omega
    ·exact c2.elim
   ·have c1:=(hp.own j b b2).1
    rcases (hp'.own _ b a2).2.2 with c2|c2
    ·omega
    ·exact c2.elim
   ·have:=hp'.dis _ _ b a2 b2
    omega
  ·rcases hi with ⟨a1,a2⟩|⟨a1,a2⟩
   ·obtain ⟨c1,c2,c3⟩:=hp.own i b a2
    refine ⟨Nat.lt_of_lt_of_le c1 hb.size,fun hs=>?_,c3⟩
    grind
   ·obtain ⟨c1,c2,c3⟩:=hp'.own _ b a2
    refine ⟨c1,c2,.inl ?_⟩
    rcases c3 with c3|c3
    ·exact Nat.le_trans h.un.size c3
    ·exact c3.elim
  ·rcases hb' with ⟨a1,_⟩|⟨a1,a2⟩
   ·simp at hi;omega
   ·exact hp'.out _ (by simp at hi;omega) b a2
 ·exact SentL.keep h.sn (fun g hg=>hb.block g (h.s3 _ (h.sg.1 g hg))) (fun x hx=>hb.block _ (h.s3 _ (h.sg.2 x hx)))

theorem entry0 {St:Nat→Prop} {a:Act} {w:World} (h:RelSt G St s a w):Entry G.gs G.al St (fun _=>False) [] w :=
 ⟨h.s3,h.sn,h.sg,⟨fun _ _=>False,fun i g r hi=>by simp at hi,fun _ _ _ h=>h.elim,fun _ _ h=>h.elim,fun _ _ _ h=>h⟩,fun _ h=>h.elim⟩

theorem ex_callv {f:FuncId} {v:Operand} {n:Nat} {fv:Nat→CV} {xs:Array Operand} {ats:Array TypeId} {args:List CV} {Q:CV→List (Option Nat×Res)→Prop} (ho:o.op=.call ⟨.value v,xs,ats⟩) (hv:s.eval v=.fn f n fv) (hc:calleeB P f=true) (he:EntL (xs.toList.map s.eval++(List.range n).map fv) args) (hA:AC G.gs P f [] args Q) (hd:dstOk G o=true)
  (hK:∀ r H',Q r H'→K (s.with o.dst r (s.H++H'))):AEx P G o s K:=fun St a w hr Q'=>by
 obtain ⟨cs,hcs,hn,hf⟩:=evR hr hv
 unfold Oper.wp
 rw [exec_callv ho hc a hcs]
 have hl:=entL_len he
 simp at hl
 refine (hA G.al w St _ _ (entry0 hr) (by simp [hn,hl]) (fun i=>?_)).mono ?_
 ·by_cases hi:i<args.length
  ·refine entL_get he i _ _ _ _ ?_
   rw [fl_append]
   by_cases h1:i<xs.size
   ·rw [if_pos (by simpa using h1),fl_get]
    simp [List.getD,h1,Array.getElem?_append_left]
    exact hr.eval _
   ·rw [if_neg (by simpa using h1),fl_get]
    have h2:i-xs.size<n:=by omega
    simp_all
  ·rw [fl_none args i (by omega)];trivial
 rintro e w' ⟨v,r,H',St',rfl,hq,hv,hu,h3,h4,h5,h6⟩
 refine ⟨hu.below,St',h3,_,hK r H' hq,?_⟩
 have:=(hr.after hu h3 h4 h5 h6).put (dst:=o.dst) (dst_of hd) hv
 cases ho:o.dst with
 | none=>rw [ho] at this;exact this
 | some d=>rw [ho] at this;exact this

theorem seq_ent {r:List Oper} {s':AS} (he:EntS G s s') (h:ASeq P G ops r s' K):ASeq P G ops r s K:=fun a w hr Q hQ=>h a w (he.rel hr) Q hQ
theorem x_ent {tr:OrdO} {s':AS} (he:EntS G s s') (h:AX P G ops tr s' K):AX P G ops tr s K:=fun a w hr Q R hQ=>h a w (he.rel hr) Q R hQ
theorem z_ent {tr:OrdO} {s':AS} (he:EntS G s s') (h:AZ P G ops tr s' K):AZ P G ops tr s K:=fun St a w hr Q hQ=>by
 obtain ⟨S1,h1,h2⟩:=he St a w hr
 obtain ⟨S2,h3,h4⟩:=h S1 a w h2 Q hQ
 grind

theorem freeze (i:Nat) {g:Option Nat} {n:Nat} {f:Nat→CV} (hH:s.H[i]?=some (g,.blk n f)):EntS G s ⟨s.env,s.b,s.H.set i (g,.frz n f)⟩:=fun St a w h=>by
 obtain ⟨fp,hp⟩:=h.hp
 have hlt:i<s.H.length:=(List.getElem?_eq_some_iff.1 hH).1
 have hrep:=hp.rep i g _ hH
 refine ⟨fun b=>St b∨fp i b,fun _ h=>.inl h,?_⟩
 have he:Evo St w w:=⟨fun _ _ _ _ _ h=>h,fun b cur t z h=>⟨cur,z,h,rfl⟩⟩
 have hs:∀ b,St b→St b∨fp i b:=fun _ h=>.inl h
 refine ⟨h.df.grow hs,h.sz,fun d=>RepC.evo he hs _ _ (h.env d),h.un,fun b hb=>.inl (h.s1 b hb),fun b hb=>?_,fun b hb=>?_,?_,h.sn,fun g hg=>.inl (h.sg.1 g hg),fun x hx=>.inl (h.sg.2 x hx)⟩
 ·rcases hb with hb|hb
  ·exact h.s2 b hb
  ·exact .inr (hp.own i b hb).2.2
 ·rcases hb with hb|hb
  ·exact h.s3 b hb
  ·exact (hp.own i b hb).1
 ·refine ⟨fun j b=>j≠i∧fp j b,fun j q r hj=>?_,fun j l b h1 h2=>hp.dis j l b h1.2 h2.2,fun j b h1=>?_,fun j hj b h1=>hp.out j (by simpa using hj) b h1.2⟩
  ·by_cases e:j=i
   ·subst e
    simp [hlt] at hj
    obtain ⟨rfl,rfl⟩:=hj
    cases g with
    | none=>exact ⟨hrep.1,fun b hb=>absurd rfl hb.1⟩
    | some g =>
     obtain ⟨h0,cur,t,h1,h2,h3⟩:=hrep
     exact ⟨fun b hb=>absurd rfl hb.1,.inr ((h0 g).2 rfl),cur,t,_,h1,h2,fun m hm=>RepC.evo he hs _ _ (h3 m hm)⟩
   ·rw [List.getElem?_set_ne (Ne.symm e)] at hj
    have e2:(fun b=>j≠i∧fp j b)=fp j:=funext fun b=>propext ⟨fun h=>h.2,fun h=>⟨e,h⟩⟩
    show r.rep G.al _ w (fun b=>j≠i∧fp j b) q
    rw [e2]
    exact Res.rep_evo he hs (fun _ _=>rfl) (hp.rep j q r hj)
  ·obtain ⟨h2,h3,h4⟩:=hp.own j b h1.2
   exact ⟨h2,fun hb=>hb.elim h3 fun hb=>h1.1 (hp.dis j i b h1.2 hb),h4⟩

theorem EntS.put {d:Nat} {v:CV} (hd:Nat.blt d G.N=true) (h:∀ St a w,RelSt G St s a w→RepC G.al St w v (a.tmps.getD d undef)):EntS G s ⟨(d,v)::s.env,s.b,s.H⟩:=fun St a w hr=>by
 refine ⟨St,fun _ h=>h,hr.df,hr.sz,fun e=>?_,hr.un,hr.s1,hr.s2,hr.s3,hr.hp,hr.sn,hr.sg⟩
 by_cases hde:d=e
 ·grind [look_same]
 ·rw [look_other _ _ _ hde];exact hr.env e
theorem weaken (d:Nat) (v:CV) (h:CEnt (look s.env s.b d) v):EntS G s ⟨(d,v)::s.env,s.b,s.H⟩:=fun St a w hr=>by
 refine ⟨St,fun _ h=>h,hr.df,hr.sz,fun e=>?_,hr.un,hr.s1,hr.s2,hr.s3,hr.hp,hr.sn,hr.sg⟩
 by_cases hde:d=e
 ·subst hde;rw [look_same];exact h _ _ _ _ (hr.env d)
 ·rw [look_other _ _ _ hde];exact hr.env e

theorem thaw (d:Nat) {i off n m N:Nat} {g:Option Nat} {F:Nat→CV} (f:Nat→Nat→CV) (hl:look s.env s.b d=.os i g off n m) (hH:s.H[i]?=some (g,.frz N F)) (hN:off+n * m≤N) (hf:∀ a b,a<n→b<m→CEnt (F (off+(a * m+b))) (f a b)) :
  EntS G s ⟨(d,.rs m n f)::s.env,s.b,s.H⟩:=fun St a w hr=>by
 refine ⟨St,fun _ h=>h,hr.df,hr.sz,fun e=>?_,hr.un,hr.s1,hr.s2,hr.s3,hr.hp,hr.sn,hr.sg⟩
 by_cases hde:d=e
 ·subst hde
  rw [look_same]
  have he:=hr.env d
  rw [hl] at he
  cases g with
  | none =>
   obtain ⟨h1,h2⟩:=he
   subst h1
   exact ⟨none,0,h2,Nat.le_refl _,by decide,fun _=>rfl,fun _ h=>by cases h⟩
  | some g =>
   obtain ⟨cap,h1,h2,h3,_⟩:=he
   obtain ⟨fp,hp⟩:=hr.hp
   obtain ⟨_,hg,cur,t,z,hh,hle,hc⟩:=hp.rep i (some g) _ hH
   refine ⟨_,cap,h1,h2,h3,(fun h=>by cases h),fun ad ha _=>?_⟩
   cases ha
   refine ⟨rfl,hg,fun p q hp' hq=>?_⟩
   have hb:p * m+q<n * m:=by
    have:p * m+m≤n * m:=by rw [← Nat.succ_mul];exact Nat.mul_le_mul_right _ hp'
    omega
   have hlt:off+(p * m+q)<cur.size:=by omega
   refine ⟨cur.getD (off+(p * m+q)) undef,?_,hf p q hp' hq _ _ _ _ (hc _ (by omega))⟩
   show w.cell? ⟨g,off+(p * m+q),none⟩=_
   rw [cell_of_row w g _ cur t z hh];simp [hlt]
 ·rw [look_other _ _ _ hde];exact hr.env e
theorem thawP (d:Nat) {i off m N:Nat} {g:Option Nat} {F:Nat→CV} (hl:look s.env s.b d=.op i g off) (hH:s.H[i]?=some (g,.frz N F)) (hN:off+m≤N) :
  EntS G s ⟨(d,.rp m fun j=>F (off+j))::s.env,s.b,s.H⟩:=fun St a w hr=>by
 refine ⟨St,fun _ h=>h,hr.df,hr.sz,fun e=>?_,hr.un,hr.s1,hr.s2,hr.s3,hr.hp,hr.sn,hr.sg⟩
 by_cases hde:d=e
 ·subst hde
  rw [look_same]
  have he:=hr.env d
  rw [hl] at he
  obtain ⟨b,rfl,he⟩:=he
  obtain ⟨fp,hp⟩:=hr.hp
  obtain ⟨_,hg,cur,t,z,hh,hle,hc⟩:=hp.rep i (some b) _ hH
  refine ⟨b,off,he,hg,fun j hj=>?_⟩
  have hlt:off+j<cur.size:=by omega
  refine ⟨cur.getD (off+j) undef,?_,hc _ (by omega)⟩
  rw [cell_of_row w b _ cur t z hh];simp [hlt]
 ·rw [look_other _ _ _ hde];exact hr.env e
end
end
section
section
variable {P:Program} {G:Gh} {ops:Array Oper} {o:Oper} {s:AS} {K:AS→Prop} {t u:TypeId} {x y:Operand} {k:IntKind}

def leafC:CV→Bool
 | .c v=>v.oneCell'
 | .err _|.rs _ _ _|.rp _ _|.os _ _ _ _ _|.op _ _ _|.fn _ _ _|.pv _=>true
 | _=>false
theorem leaf_one {al:List Addr} {St:Nat→Prop} {w:World}:∀ {c:CV} {v:Value},leafC c=true→RepC al St w c v→v.oneCell'=true
 | .c u,v,hl,h=>by
  have h:v=u:=h
  rw [h];exact hl
 | .err n,v,_,h=>by
  have h:v=ev al n:=h
  rw [h];unfold ev;split <;> rfl
 | .rs _ _ _,v,_,⟨_,_,h,_⟩=>by rw [h];rfl
 | .rp _ _,v,_,⟨_,_,h,_⟩=>by rw [h];rfl
 | .os _ none _ _ _,v,_,h=>by rw [h.2];rfl
 | .os _ (some _) _ _ _,v,_,⟨_,h,_⟩=>by rw [h];rfl
 | .op _ _ _,v,_,⟨_,_,h⟩=>by rw [h];rfl
 | .fn _ _ _,v,_,⟨_,h,_⟩=>by rw [h];rfl
 | .pv p,v,_,h=>(p.one h).2

theorem RelSt.write {St:Nat→Prop} {a:Act} {w:World} (h:RelSt G St s a w) {i g n n':Nat} {f f':Nat→CV} (hH:s.H[i]?=some (some g,.blk n f)) {cur cs:Array Value} {ty:TypeId} (hc:w.heap[g]?=some (.cells cur ty (0,0))) (hs:cs.size=cur.size)
  (hn:n'≤cs.size) (hf:∀ j,j<n'→RepC G.al St w (f' j) (cs.getD j undef)):RelSt G St ⟨s.env,s.b,s.H.set i (some g,.blk n' f')⟩ a (w.setRow g cs):=by
 obtain ⟨fp,hp⟩:=h.hp
 have hlt:i<s.H.length:=(List.getElem?_eq_some_iff.1 hH).1
 have hrep:=hp.rep i (some g) _ hH
 have hg:fp i g:=(hrep.1 g).2 rfl
 obtain ⟨hg1,hg2,hg3⟩:=hp.own i g hg
 have hnew:=setRow_heap w g cur cs ty (0,0) hc
 have hold:∀ b,b≠g→(w.setRow g cs).heap[b]?=w.heap[b]?:=fun b hb=>setRow_other w g b cs hb
 have hsz:(w.setRow g cs).heap.size=w.heap.size:=by simp [World.setRow]
 have he:Evo St w (w.setRow g cs):=⟨fun b cu ct cz hb hcu=>(hold b (fun e=>hg2 (e ▸ hb))).trans hcu,fun b cu t z hb=>by
  grind⟩
 refine ⟨h.df.keep (fun _ h=>h) (fun b hb=>hold b (fun e=>hg2 (e ▸ hb))),h.sz,fun d=>RepC.evo he (fun _ x=>x) _ _ (h.env d),⟨h.un.os,h.un.tape,h.un.output,by rw [hsz];exact h.un.size,fun k hk hF=>?_,fun b cu t z hb=>?_⟩,h.s1,h.s2,fun b hb=>by rw [hsz];exact h.s3 b hb,?_,?_,h.sg⟩
 ·refine (hold k (fun e=>?_)).trans (h.un.block k hk hF)
  grind
 ·obtain ⟨cur',z',h1,h2⟩:=h.un.sh b cu t z hb
  grind
 ·refine ⟨fp,fun j q r hj=>?_,hp.dis,fun j b hb=>by rw [hsz];exact hp.own j b hb,fun j hj=>hp.out j (by simpa using hj)⟩
  by_cases e:j=i
  ·subst e
   simp [hlt] at hj
   obtain ⟨rfl,rfl⟩:=hj
   exact ⟨hrep.1,cs,ty,hnew,hn,fun m hm=>RepC.evo he (fun _ x=>x) _ _ (hf m hm)⟩
  ·rw [List.getElem?_set_ne (Ne.symm e)] at hj
   exact Res.rep_evo he (fun _ x=>x) (fun b hF=>hold b (fun e2=>e (hp.dis j i b hF (e2 ▸ hg)))) (hp.rep j q r hj)
 ·exact SentL.keep h.sn (fun q hq=>hold q (fun e=>hg2 (e ▸ h.sg.1 q hq))) (fun q hq=>hold _ (fun e=>hg2 (e ▸ h.sg.2 q hq)))

theorem RelSt.move {St:Nat→Prop} {a:Act} {w:World} {env:List (Nat×CV)} {b0:Nat→CV} {H:List (Option Nat×Res)} {x:Option Nat×Res} (h:RelSt G St ⟨env,b0,H++[x]⟩ a w) {i:Nat} (hi:i<H.length):RelSt G St ⟨env,b0,H.set i x⟩ a w:=by
 refine ⟨h.df,h.sz,h.env,h.un,h.s1,h.s2,h.s3,?_,h.sn,h.sg⟩
 obtain ⟨fp,hp⟩:=h.hp
 refine ⟨fun j b=>j<H.length∧if j=i then fp H.length b else fp j b,fun j q r' hj=>?_,fun j l b h1 h2=>?_,fun j b h1=>?_,fun j hj b h1=>?_⟩
 ·have hj1:j<H.length:=by
   have:=(List.getElem?_eq_some_iff.1 hj).1
   simpa using this
  by_cases e:j=i
  ·subst e
   simp [hi] at hj
   have e2:(fun b=>j<H.length∧if j=j then fp H.length b else fp j b)=fp H.length:=funext fun b=>by simp [hi]
   show r'.rep G.al St w (fun b=>j<H.length∧if j=j then fp H.length b else fp j b) q
   rw [e2]
   exact hp.rep H.length q r' (by simp [hj])
  ·rw [List.getElem?_set_ne (Ne.symm e)] at hj
   have e3:(fun b=>j<H.length∧if j=i then fp H.length b else fp j b)=fp j:=funext fun b=>by simp [e,hj1]
   show r'.rep G.al St w (fun b=>j<H.length∧if j=i then fp H.length b else fp j b) q
   rw [e3]
   exact hp.rep j q r' (by grind)
 ·obtain ⟨a1,a2⟩:=h1
  obtain ⟨b1,b2⟩:=h2
  by_cases e1:j=i <;> by_cases e2:l=i
  ·omega
  ·simp only [e1,e2,if_true,if_false] at a2 b2
   have:=hp.dis _ _ b a2 b2
   omega
  ·simp only [e1,e2,if_true,if_false] at a2 b2
   have:=hp.dis _ _ b a2 b2
   omega
  ·simp only [e1,e2,if_false] at a2 b2
   exact hp.dis j l b a2 b2
 ·by_cases e:j=i
  ·simp only [e,if_true] at h1;exact hp.own _ b h1.2
  ·simp only [e,if_false] at h1;exact hp.own j b h1.2
 grind
def updF (f:Nat→CV) (off:Nat):List CV→Nat→CV
 | []=>f
 | x::r=>updF (fun j=>match Nat.beq j off with|true=>x|false=>f j) (off+1) r
theorem updF_get:∀ (l:List CV) (f:Nat→CV) (off j:Nat),updF f off l j=if off≤j∧j<off+l.length then fl l (j-off) else f j
 | [],f,off,j=>by rw [updF,if_neg (by simp)]
 | x::r,f,off,j=>by
  rw [updF,updF_get r _ (off+1) j]
  by_cases h1:off+1≤j∧j<off+1+r.length
  ·rw [if_pos h1,if_pos (by simp;omega)]
   obtain ⟨m,hm⟩:∃ m,j-off=m+1:=⟨j-off-1,by omega⟩
   rw [hm,show j-(off+1)=m by omega,fl]
  ·rw [if_neg h1]
   rcases beq_cases j off with ⟨hb,he⟩|⟨hb,he⟩
   ·subst he
    simp only [hb]
    rw [if_pos (by simp),Nat.sub_self,fl]
   ·simp only [hb]
    rw [if_neg (by simp;omega)]

theorem row_at (cur:Array Value) (vs:List Value) (off:Nat) (h:off+vs.length≤cur.size) (j:Nat):((cur.toList.take off++vs++cur.toList.drop (off+vs.length)).toArray).getD j undef=if off≤j∧j<off+vs.length then vs.getD (j-off) undef else cur.getD j undef:=by
 simp only [Array.getD_eq_getD_getElem?,List.getElem?_toArray,List.getD_eq_getElem?_getD]
 grind [List.getElem?_append_right]

theorem storeAll {al:List Addr} {St:Nat→Prop} {w:World} {l:List CV} {cs:Array Value} (h:RepL al St w l cs) (hl:l.all leafC=true):∀ v ∈ cs.toList,v.oneCell'=true:=by
 intro v hv
 obtain ⟨i,hi,e⟩:=List.mem_iff_getElem.1 hv
 have hi':i<l.length:=by rw [← h.1];simpa using hi
 have h2:=h.2 i hi'
 have hi2:i<cs.size:=by simpa using hi
 have e2:cs.getD i undef=v:=by simp [hi2];simpa using e
 rw [e2] at h2
 refine leaf_one (c:=fl l i) ?_ h2
 grind [fl_get]

theorem md_store {i off n m:Nat} {g:Option Nat} {f:Nat→CV} {c:CV} {l:List CV} (ho:o.op=.store t x y) (hx:s.eval x=.op i g off) (hH:s.H[i]?=some (g,.blk n f)) (hy:s.eval y=c) (hl:cellsC c=some l) (h5:(P.info? t).map (·.size)=some m) (hm:l.length=m) (hleaf:l.all leafC=true) (hn:off+m≤n)
  (F:Nat→CV) (hF:∀ j,j<n→CEnt (updF f off l j) (F j)) (hd:dstOk G o=true) (hK:K (s.with o.dst (.c undef) (s.H.set i (g,.blk n F)))):AMd P G o s K:=fun St a w hr Q=>by
 obtain ⟨info,hi,h6⟩:=Option.map_eq_some_iff.1 h5
 obtain ⟨b,rfl,e⟩:=evR hr hx
 have hc:=cells_rep (evR hr hy) hl
 obtain ⟨fp,hp⟩:=hr.hp
 obtain ⟨h00,cur,ty,hh,hle,hcell⟩:=hp.rep i (some b) _ hH
 have hst:=run_storeCells_at P b off ty (a.eval y).cells.toList 0 cur w hh (by simp [hc.1];omega) (storeAll hc hleaf)
 simp only [Nat.add_zero] at hst
 have hrun:(execOp a.eval o).run P w=.ok .skip (w.setRow b (cur.toList.take off++(a.eval y).cells.toList++cur.toList.drop (off+(a.eval y).cells.toList.length)).toArray):=by
  simp only [execOp,ho,e]
  simp [Instr.storeAt,Instr.sureAddr,storeVar,sizeOf,typeInfo,hi,h6,hc.1,hm]
  rw [show (a.eval y).cells.toList.length=m by simp [hc.1,hm]] at hst
  simp [hst]
 unfold Oper.wp
 rw [hrun]
 have hlen:(a.eval y).cells.toList.length=m:=by simp [hc.1,hm]
 refine ⟨fun q hq=>setRow_other w b q _ (fun e=>(hp.own i b ((h00 b).2 rfl)).2.1 (e ▸ hq)),St,fun _ h=>h,_,hK,?_⟩
 have hw:=hr.write hH hh (cs:=(cur.toList.take off++(a.eval y).cells.toList++cur.toList.drop (off+(a.eval y).cells.toList.length)).toArray) (by simp [hc.1];omega) (n':=n) (f':=F) (by simp [hc.1];omega) (fun j hj=>by
  refine hF j hj _ _ _ _ ?_
  rw [updF_get,row_at cur _ off (by rw [hlen];omega),hlen,hm]
  by_cases h1:off≤j∧j<off+m
  ·rw [if_pos h1,if_pos h1]
   have:=hc.2 (j-off) (by omega)
   simp_all
  grind)
 have:=hw.put (dst:=o.dst) (v:=.c undef) (x:=undef) (dst_of hd) rfl
 cases ho:o.dst with
 | none=>rw [ho] at this;exact this
 | some d=>rw [ho] at this;exact this

def SrcAt (P:Program) (al:List Addr) (St:Nat→Prop) (w:World) (xv:Value) (k m:Nat) (f:Nat→CV):Prop :=
 ∃ cs:List Value,cs.length=m * k∧(∀ j,j<m * k→RepC al St w (f j) (cs.getD j undef))∧∀ W,W.heap=w.heap→(Builtin.lenOf xv).run P W=.ok m W∧(Builtin.firstCells k m xv).run P W=.ok cs.toArray W
def ASrc (P:Program) (G:Gh) (s:AS) (y:Operand) (k m:Nat) (f:Nat→CV):Prop:=∀ St a w,RelSt G St s a w→SrcAt P G.al St w (a.eval y) k m f

theorem cell_heap {w W:World} (h:W.heap=w.heap) (p:Addr):W.cell? p=w.cell? p:=by simp [World.cell?,h]
theorem src_cells {al:List Addr} {St:Nat→Prop} {w:World} {k m cap:Nat} {f:Nat→CV} {b q:Nat} {g:Nat→Value} (h:∀ j,j<m * k→w.cell? ⟨b,q+j,none⟩=some (g j)∧RepC al St w (f j) (g j)):SrcAt P al St w (.slice (some ⟨b,q,none⟩) m cap) k m f:=by
 refine ⟨(List.range (m * k)).map g,by simp,fun j hj=>by simp_all,fun W hW=>⟨rfl,?_⟩⟩
 grind [run_loadCells,addr_add,cell_heap,Builtin.firstCells]
theorem src_none {al:List Addr} {St:Nat→Prop} {w:World} {k cap:Nat} {f:Nat→CV}:SrcAt P al St w (.slice none 0 cap) k 0 f :=
 ⟨[],by simp,fun j hj=>by simp at hj,fun W _=>⟨rfl,by simp [Builtin.firstCells]⟩⟩
theorem src_rs {k m:Nat} {f:Nat→Nat→CV} (hy:s.eval y=.rs k m f):ASrc P G s y k m fun j=>f (j / k) (j % k):=fun St a w h=>by
 obtain ⟨ao,cap,e,h1,h2,h3,h4⟩:=evR h hy
 rw [e]
 cases ao with
 | none =>
  simp_all [src_none]
 | some ad =>
  by_cases h0:m * k=0
  ·refine ⟨[],by simp [h0],fun j hj=>by omega,fun W _=>⟨rfl,?_⟩⟩
   have:=run_loadCells (P:=P) (w:=W) ad 0 (fun _=>undef) (fun j hj=>by omega)
   grind [Builtin.firstCells]
  ·have hk:0<k:=Nat.pos_of_ne_zero fun e=>h0 (by rw [e,Nat.mul_zero])
   have hm:0<m:=Nat.pos_of_ne_zero fun e=>h0 (by rw [e,Nat.zero_mul])
   obtain ⟨b,q,sp⟩:=ad
   obtain ⟨h5,h6,h7⟩:=h4 _ rfl hm
   simp only at h5
   subst h5
   obtain ⟨g,hg⟩:=choose_cells (n:=m * k) (p:=fun j v=>w.cell? ⟨b,q+j,none⟩=some v∧RepC G.al St w (f (j / k) (j % k)) v) (fun j hj=>by
    obtain ⟨v,hv,hr⟩:=h7 (j / k) (j % k) (Nat.div_lt_of_lt_mul (by grind)) (Nat.mod_lt _ hk)
    grind [Nat.div_add_mod])
   exact src_cells hg
theorem src_os {i off k m N:Nat} {g:Option Nat} {F:Nat→CV} (hy:s.eval y=.os i g off m k) (hH:Holds s i g N F) (hN:off+m * k≤N):ASrc P G s y k m fun j=>F (off+j):=fun St a w h=>by
 have he:=evR h hy
 cases g with
 | none =>
  obtain ⟨h1,h2⟩:=he
  grind [src_none]
 | some b =>
  obtain ⟨cap,e,_⟩:=he
  rw [e]
  obtain ⟨hg,cur,ty,z,hh,hle,hc⟩:=holdCells h hH
  refine src_cells (g:=fun j=>cur.getD (off+j) undef) fun j hj=>⟨?_,hc _ (by omega)⟩
  have hlt:off+j<cur.size:=by omega
  rw [cell_of_row w b _ cur ty z hh];simp [hlt]
theorem src_str {l:ByteArray} (hy:s.eval y=.c (.string l)):ASrc P G s y 1 l.size (byF l.data.toList):=fun St a w h=>by
 rw [evC h hy]
 refine ⟨l.data.toList.map fun b=>.int .u8 (b.toNat:Nat),by simp,fun j hj=>?_,fun W _=>⟨rfl,?_⟩⟩
 ·have hj:j<l.data.size:=by simpa using hj
  have e:l.data[j]?=some l.data[j]:=Array.getElem?_eq_getElem hj
  simp [List.getD,e,byF]
  rfl
 ·simp [Builtin.firstCells]
  grind
def notInt (P:Program) (u:TypeId):Bool:=match P.underlying u with|some (.int _)=>false|some _=>true|none=>false
theorem run_app_room {e ty:TypeId} {info:TypeInfo} {size n m cap:Nat} {base:Option Addr} {xv:Value} {news:List Value} {w:World} (h1:P.underlying t=some (.slice e)) (hu:notInt P u=true) (hi:P.info? e=some info) (hs:info.size=size)
  (hl:(Builtin.lenOf xv).run P w=.ok m w) (hn:(Builtin.firstCells size m xv).run P w=.ok news.toArray w) (hroom:n+m≤cap) {w':World} (hst:∀ ad,base=some ad→(storeCells (ad.add (n * size)) news).run P w=.ok () w') (h0:base=none→w'=w) :
  (Builtin.append_ #[t,u] ty #[.slice base n cap,xv]).run P w=.ok (.slice base (n+m) cap) w':=by
 cases hu':P.underlying u with
 | none=>simp [notInt,hu'] at hu
 | some d =>
  cases base with
  | none =>
   rw [h0 rfl]
   cases d <;> first|(simp [notInt,hu'] at hu;done)|skip
   all_goals simp only [Builtin.append_,List.getElem?_toArray,List.getElem?_cons_zero,List.getElem?_cons_succ,underlying,Sem.run_bind,run_program,Result.andThen_ok,h1,hu',Sem.run_pure,sizeOf,typeInfo,hi,hs,Bool.false_eq_true,if_false,hl,if_pos hroom,Bool.not_false,if_true,hn]
  | some ad =>
   have hst:=hst ad rfl
   cases d <;> first|(simp [notInt,hu'] at hu;done)|skip
   all_goals simp only [Builtin.append_,List.getElem?_toArray,List.getElem?_cons_zero,List.getElem?_cons_succ,underlying,Sem.run_bind,run_program,Result.andThen_ok,h1,hu',Sem.run_pure,sizeOf,typeInfo,hi,hs,Bool.false_eq_true,if_false,hl,if_pos hroom,Bool.not_false,if_true,hn,hst]

theorem run_app_grow {e ty:TypeId} {info:TypeInfo} {z:Value} {size n m cap:Nat} {base:Option Addr} {xv:Value} {olds news:List Value} {w:World} (h1:P.underlying t=some (.slice e)) (hu:notInt P u=true) (hi:P.info? e=some info) (hs:info.size=size) (hz:info.zero=some z)
  (hl:∀ W,W.heap=w.heap→(Builtin.lenOf xv).run P W=.ok m W) (ho:∀ W,W.heap=w.heap→(Builtin.firstCells size n (.slice base n cap)).run P W=.ok olds.toArray W) (hn:∀ W,W.heap=w.heap→(Builtin.firstCells size m xv).run P W=.ok news.toArray W) (hroom:cap<n+m)
  (h63:n+m≤9223372036854775807) (h48:(n+m) * info.bytes≤140737488355328) :
  (Builtin.append_ #[t,u] ty #[.slice base n cap,xv]).run P w=.ok (.slice (some ⟨w.heap.size,0,none⟩) (n+m) (grownCap w (n+m) cap e)) (w.drew.alloc (.cells (olds.toArray++news.toArray++Builtin.zeroCells z.cells (grownCap w (n+m) cap e-(n+m))) e)):=by
 have hnot:¬ (n+m≤cap):=by omega
 have hfit:=growslice_fits hroom h48
 have h63':¬ (9223372036854775807<((n:Int)+(m:Int))):=by omega
 have h48':¬ (281474976710656<Builtin.nextslicecap (n+m) cap * info.bytes):=by omega
 have hl0:=hl w rfl
 have ho1:=ho w.drew rfl
 have hn1:=hn w.drew rfl
 cases hu':P.underlying u with
 | none=>simp [notInt,hu'] at hu
 | some d =>
  have h64:¬ (((n+m:Nat):Int)>IntKind.i64.max∧(false=true∨info.bytes=0)):=by simp [IntKind.max,IntKind.bits,IntKind.signed];omega
  have h49:¬ (Builtin.nextslicecap (n+m) cap * info.bytes>2 ^ 48):=by omega
  have hch:(choose (.appendCap (n+m) cap e)).run P w=.ok (grownCap w (n+m) cap e) w.drew:=by simp [Question.forced,grownCap]
  cases d <;> first|(simp [notInt,hu'] at hu;done)|skip
  all_goals simp only [Builtin.append_,List.getElem?_toArray,List.getElem?_cons_zero,List.getElem?_cons_succ,underlying,Sem.run_bind,run_program,Result.andThen_ok,h1,hu',Sem.run_pure,sizeOf,typeInfo,hi,hs,Bool.false_eq_true,if_false,hl0,if_neg hnot,zeroValue,Bool.not_false,if_true,newRow]
  all_goals (try (rw [if_neg (by simp [IntKind.max,IntKind.bits,IntKind.signed];omega)]))
  all_goals (try simp only [Sem.run_bind,run_program,Result.andThen_ok,Sem.run_pure,hi,hz,if_neg h49,hch,run_askRoom,ho1,hn1,run_newObj,World.alloc_eq,World.size_drew])

theorem row_app (olds news:List Value) (rest:Array Value) (j:Nat) (h:j<olds.length+news.length):(olds.toArray++news.toArray++rest).getD j undef=if j<olds.length then olds.getD j undef else news.getD (j-olds.length) undef:=by
 simp only [Array.getD_eq_getD_getElem?,List.getD_eq_getElem?_getD]
 grind

def appF (n:Nat) (f h:Nat→CV) (j:Nat):CV:=if j<n then f j else h (j-n)

theorem below_drewAlloc (w:World) (x:Obj):Below w.heap.size w (w.drew.alloc x):=below_then (below_drew1 w) (below_alloc w.drew x)

theorem exec_append {xs:Array Operand} {ats:Array TypeId} (ho:o.op=.call ⟨.builtin .append,xs,ats⟩) {a:Act} {v:Value} {w w':World} (h:(Builtin.append_ ats o.type (xs.map a.eval)).run P w=.ok v w'):(execOp a.eval o).run P w=.ok (.value v) w':=by
 simp [execOp,ho,resolve,invoke,builtin,h]

set_option maxHeartbeats 1000000 in
theorem md_append {e:TypeId} {z:Value} {i n m k N by_:Nat} {g:Option Nat} {f h:Nat→CV} (ho:o.op=.call ⟨.builtin .append,#[x,y],#[t,u]⟩) (hx:s.eval x=.os i g 0 n k) (hH:s.H[i]?=some (g,.blk N f)) (hN:n * k≤N)
  (hsrc:ASrc P G s y k m h) (h1:P.underlying t=some (.slice e)) (hu:notInt P u=true) (h5:(P.info? e).map (·.size)=some k) (hz:(P.info? e).map (·.zero)=some (some z)) (hby:(P.info? e).map (·.bytes)=some by_)
  (h63:n+m≤9223372036854775807) (h48:(n+m) * by_≤140737488355328) (hzk:z.cells.size=k)
  (F:Nat→CV) (hF:∀ j,j<(n+m) * k→CEnt (appF (n * k) f h j) (F j)) (hleaf:∀ j,j<m * k→leafC (h j)=true) (hd:dstOk G o=true)
  (hK:∀ g',K (s.with o.dst (.os i g' 0 (n+m) k) (s.H.set i (g',.blk ((n+m) * k) F)))):AMd P G o s K:=fun St a w hr Q=>by
 obtain ⟨info,hi,hs⟩:=Option.map_eq_some_iff.1 h5
 obtain ⟨info',hi',hz⟩:=Option.map_eq_some_iff.1 hz
 obtain rfl:=Option.some.inj (hi.symm.trans hi')
 obtain ⟨info',hi',hby⟩:=Option.map_eq_some_iff.1 hby
 obtain rfl:=Option.some.inj (hi.symm.trans hi')
 obtain ⟨news,hnl,hnr,hrun⟩:=hsrc St a w hr
 have he:=evR hr hx
 have hlen:(n+m) * k=n * k+m * k:=Nat.add_mul ..
 -- the value's parts
 obtain ⟨base,cap,ev,hle,hcap,hbase⟩:∃ base cap,a.eval x=.slice base n cap∧n≤cap∧cap≤9223372036854775807∧((g=none∧base=none∧cap=0∧n=0)∨∃ b,g=some b∧base=some ⟨b,0,none⟩∧∃ cur t z,w.heap[b]?=some (.cells cur t z)∧0+cap * k≤cur.size):=by
  cases g with
  | none=>obtain ⟨h1,h2⟩:=he;grind
  | some b=>obtain ⟨cap,h1,h2,h3,h4⟩:=he;exact ⟨_,cap,h1,h2,h3,.inr ⟨b,rfl,rfl,h4⟩⟩
 have hargs:(#[x,y]:Array Operand).map a.eval=#[a.eval x,a.eval y]:=by simp
 have put:∀ {w':World} {v:Value} {c:CV} {H:List (Option Nat×Res)},RelSt G St ⟨s.env,s.b,H⟩ a w'→RepC G.al St w' c v→RelSt G St (s.with o.dst c H) (a.put o.dst v) w':=fun {w' v c H} h1 h2=>by
  have:=h1.put (dst:=o.dst) (dst_of hd) h2
  cases ho:o.dst with
  | none=>rw [ho] at this;exact this
  | some d=>rw [ho] at this;exact this
 by_cases hroom:n+m≤cap
 ·-- in place
  rcases hbase with ⟨hg,hb,hc0,hn0⟩|⟨b,hg,hb,cu,tt,zz,hcu,hfit⟩
  ·subst hg hb
   have hm0:m=0:=by omega
   subst hm0
   have hrun':=run_app_room (t:=t) (u:=u) (ty:=o.type) h1 hu hi hs (hrun w rfl).1 (hrun w rfl).2 hroom (base:=none) (w':=w) (fun _ h=>by simp at h) (fun _=>rfl)
   unfold Oper.wp
   rw [exec_append ho (by rw [hargs,ev];exact hrun')]
   refine ⟨KeepS.refl _ _,St,fun _ h=>h,_,hK none,?_⟩
   have hlt:=(List.getElem?_eq_some_iff.1 hH).1
   have hmv:RelSt G St ⟨s.env,s.b,s.H.set i (none,.blk ((n+0) * k) F)⟩ a w:=by
    refine ⟨hr.df,hr.sz,hr.env,hr.un,hr.s1,hr.s2,hr.s3,?_,hr.sn,hr.sg⟩
    obtain ⟨fp,hp⟩:=hr.hp
    refine ⟨fp,fun j q r hj=>?_,hp.dis,hp.own,fun j hj=>hp.out j (by simpa using hj)⟩
    by_cases hj2:j=i
    ·subst hj2
     simp [hlt] at hj
     obtain ⟨rfl,rfl⟩:=hj
     exact ⟨by simp [hn0],(hp.rep j none _ hH).2⟩
    ·rw [List.getElem?_set_ne (Ne.symm hj2)] at hj
     exact hp.rep j q r hj
   exact put hmv ⟨by omega,by rw [hn0,hc0]⟩
  ·subst hg hb
   obtain ⟨fp,hp⟩:=hr.hp
   obtain ⟨hb0,cur,ty,hh,hle2,hcell⟩:=hp.rep i (some b) _ hH
   have hq:=Option.some.inj (hcu.symm.trans hh)
   injection hq with e1 e2 e3
   have hfit:0+cap * k≤cur.size:=e1 ▸ hfit
   have hfit2:n * k+news.length≤cur.size:=by
    rw [hnl,← hlen]
    exact Nat.le_trans (Nat.mul_le_mul_right _ hroom) (by omega)
   have hone:∀ v ∈ news,v.oneCell'=true:=fun v hv=>by
    grind [List.mem_iff_getElem,leaf_one]
   have hst:=run_storeCells_at P b (n * k) ty news 0 cur w hh (by simpa using hfit2) hone
   simp only [Nat.add_zero] at hst
   have hrun':=run_app_room (t:=t) (u:=u) (ty:=o.type) h1 hu hi hs (hrun w rfl).1 (hrun w rfl).2 hroom (base:=some ⟨b,0,none⟩) (w':=w.setRow b (cur.toList.take (n * k)++news++cur.toList.drop (n * k+news.length)).toArray) (fun ad h=>by
    grind [addr_add]) (fun h=>by simp at h)
   unfold Oper.wp
   rw [exec_append ho (by rw [hargs,ev];exact hrun')]
   refine ⟨fun q hq=>setRow_other w b q _ (fun e=>(hp.own i b ((hb0 b).2 rfl)).2.1 (e ▸ hq)),St,fun _ h=>h,_,hK (some b),?_⟩
   have hw:=hr.write hH hh (cs:=(cur.toList.take (n * k)++news++cur.toList.drop (n * k+news.length)).toArray) (by simp;omega) (n':=(n+m) * k) (f':=F) (by simp;omega) (fun j hj=>by
    refine hF j hj _ _ _ _ ?_
    rw [row_at cur news (n * k) hfit2]
    grind [appF])
   refine put hw ⟨cap,rfl,hroom,hcap,?_⟩
   exact ⟨_,_,_,setRow_heap w b cur _ _ _ hh,by simp;omega⟩
 ·-- a new row
  have hroom:cap<n+m:=by omega
  obtain ⟨olds,hol,hor,horun⟩:SrcAt P G.al St w (.slice base n cap) k n f:=by
   rcases hbase with ⟨hg,hb,hc0,hn0⟩|⟨b,hg,hb,_⟩
   ·subst hb hn0 hc0;exact src_none
   ·subst hg hb
    obtain ⟨_,cur,tt,zz,hh,hle,hc⟩:=blkCells hr hH
    refine src_cells (g:=fun j=>cur.getD j undef) fun j hj=>⟨?_,hc j (by omega)⟩
    have hlt:j<cur.size:=by omega
    rw [Nat.zero_add,cell_of_row w b j cur tt zz hh];simp [hlt]
  have hrun':=run_app_grow (t:=t) (u:=u) (ty:=o.type) h1 hu hi hs hz (fun W hW=>(hrun W hW).1) (fun W hW=>(horun W hW).2) (fun W hW=>(hrun W hW).2) hroom h63 (by rw [hby];exact h48)
  unfold Oper.wp
  rw [exec_append ho (by rw [hargs,ev];exact hrun')]
  refine ⟨keep_of_below hr (below_drewAlloc w _),St,fun _ h=>h,_,hK (some w.heap.size),?_⟩
  have hgc:n+m≤grownCap w (n+m) cap e∧grownCap w (n+m) cap e≤9223372036854775807:=by
   have hlt:=Nat.mod_lt (w.tape w.drawn (.appendCap (n+m) cap e)) (show 0<2 ^ 63-(n+m) by omega)
   simp only [grownCap,Question.cut]
   omega
  have hcell0:(w.drew.alloc (.cells (olds.toArray++news.toArray++Builtin.zeroCells z.cells (grownCap w (n+m) cap e-(n+m))) e)).heap[w.heap.size]?=some (.cells (olds.toArray++news.toArray++Builtin.zeroCells z.cells (grownCap w (n+m) cap e-(n+m))) e (0,0)):=heap_alloc_new w.drew _
  have hsize:(olds.toArray++news.toArray++Builtin.zeroCells z.cells (grownCap w (n+m) cap e-(n+m))).size=grownCap w (n+m) cap e * k:=by
   simp [Builtin.zeroCells,hol,hnl,hzk]
   rw [← Nat.add_mul,← Nat.add_mul]
   congr 1
   omega
  have hEvo:Evo St w (w.drew.alloc (.cells (olds.toArray++news.toArray++Builtin.zeroCells z.cells (grownCap w (n+m) cap e-(n+m))) e)):=Evo.of_below (below_drewAlloc w _) hr.s3
  have hfr:=hr.fresh (below_drewAlloc w _) (Nat.le_refl _) hcell0 (n:=(n+m) * k) (f:=F) (by grind) (fun j hj=>by
   refine hF j hj _ _ _ _ (RepC.evo hEvo (fun _ x=>x) _ _ ?_)
   grind [appF,row_app])
  have hkl:=hfr.move ((List.getElem?_eq_some_iff.1 hH).1)
  refine put hkl ⟨_,rfl,hgc.1,hgc.2,_,_,_,hcell0,?_⟩
  rw [hsize]
  omega
end
end
section
section
variable {P:Program} {G:Gh} {ops:Array Oper} {o:Oper} {s:AS} {K:AS→Prop} {t u:TypeId} {x y:Operand} {k:IntKind}

theorem exec_len {ats:Array TypeId} (ho:o.op=.call ⟨.builtin .len,#[x],ats⟩) {a:Act} {v:Value} {w:World} (h:(Builtin.len_ ats o.type #[a.eval x]).run P w=.ok v w):(execOp a.eval o).run P w=.ok (.value v) w:=by
 simp [execOp,ho,resolve,invoke,builtin,h]
theorem rd_lenR {e:TypeId} {m n:Nat} {f:Nat→Nat→CV} (ho:o.op=.call ⟨.builtin .len,#[x],#[t]⟩) (hx:s.eval x=.rs m n f) (h1:P.underlying t=some (.slice e)):ARd P G o s (.c (.int .i64 (n:Nat))):=fun St a w h=>by
 obtain ⟨ao,cap,e0,_⟩:=evR h hx
 exact ⟨_,fun W _=>exec_len ho (v:=.int .i64 (n:Nat)) (by rw [e0];simp [Builtin.len_,underlying,h1,goInt]),rfl⟩
theorem rd_lenO {e:TypeId} {i off m n:Nat} {g:Option Nat} (ho:o.op=.call ⟨.builtin .len,#[x],#[t]⟩) (hx:s.eval x=.os i g off n m) (h1:P.underlying t=some (.slice e)):ARd P G o s (.c (.int .i64 (n:Nat))):=fun St a w h=>by
 obtain ⟨ao,cap,e0⟩:∃ ao cap,a.eval x=.slice ao n cap:=by
  have he:=evR h hx
  cases g with
  | none=>exact ⟨none,0,by rw [he.2,he.1]⟩
  | some b=>obtain ⟨cap,e0,_⟩:=he;exact ⟨_,cap,e0⟩
 exact ⟨_,fun W _=>exec_len ho (v:=.int .i64 (n:Nat)) (by rw [e0];simp [Builtin.len_,underlying,h1,goInt]),rfl⟩
theorem rd_lenS {l:ByteArray} (ho:o.op=.call ⟨.builtin .len,#[x],#[t]⟩) (hx:s.eval x=.c (.string l)) (h1:P.underlying t=some .string):ARd P G o s (.c (.int .i64 (l.size:Nat))):=fun St a w h =>
 ⟨_,fun W _=>exec_len ho (v:=.int .i64 (l.size:Nat)) (by rw [evC h hx];simp [Builtin.len_,underlying,h1,goInt]),rfl⟩
theorem rd_lenN {e:TypeId} (ho:o.op=.call ⟨.builtin .len,#[x],#[t]⟩) (hx:s.eval x=.c (.slice none 0 0)) (h1:P.underlying t=some (.slice e)):ARd P G o s (.c (.int .i64 0)):=fun St a w h =>
 ⟨_,fun W _=>exec_len ho (v:=.int .i64 0) (by rw [evC h hx];simp [Builtin.len_,underlying,h1,goInt]),rfl⟩

theorem rd_max2 {p q:Int} {ats:Array TypeId} (ho:o.op=.call ⟨.builtin .max,#[x,y],ats⟩) (hx:s.eval x=.c (.int k p)) (hy:s.eval y=.c (.int k q)):ARd P G o s (.c (.int k (max p q))):=fun St a w h =>
 ⟨_,fun W _=>by
  have e:max p q=if q>p then q else p:=by split <;> omega
  simp [execOp,ho,resolve,invoke,builtin,evC h hx,evC h hy,Builtin.max_,Builtin.max2]
  rw [e],rfl⟩
def Bd (s:AS) (d:Nat):Option Operand→Nat→Prop
 | none,n=>n=d
 | some x,n=>∃ (k:IntKind) (z:Int),s.eval x=.c (.int k z)∧z=(n:Int)
theorem bd_none (s:AS) (d:Nat):Bd s d none d:=rfl
theorem bd_some {d n:Nat} {z:Int} (hx:s.eval x=.c (.int k z)) (hz:z=(n:Int)):Bd s d (some x) n:=⟨k,z,hx,hz⟩

theorem run_bounds {St:Nat→Prop} {a:Act} {w:World} (h:RelSt G St s a w) {lo hi:Option Operand} {l u n cap:Nat} (h1:Bd s 0 lo l) (h2:Bd s n hi u) (hlu:l≤u) (hu:u≤n) (hn:n≤cap) (is:Bool) (W:World) :
  (Instr.sliceBounds is n cap (lo.map a.eval) (hi.map a.eval) none).run P W=.ok (l,u,cap) W:=by
 have hb:∀ (x:Operand) (k:IntKind) (z:Int) (m y:Nat) (code:BoundsCode),s.eval x=.c (.int k z)→z=(m:Int)→m≤y→(Instr.sliceBound (a.eval x) y code).run P W=.ok m W:=fun x k z m y code hx hz hm=>by
  rw [evC h hx,hz]
  simp [Instr.sliceBound,asIntOf,hm]
 cases lo with
 | none =>
  have h1:l=0:=h1
  subst h1
  cases hi with
  | none=>have h2:u=n:=h2;subst h2;simp [Instr.sliceBounds]
  | some y=>obtain ⟨k,z,hy,hz⟩:=h2;simp [Instr.sliceBounds,hb y k z u cap _ hy hz (by omega)]
 | some x =>
  obtain ⟨k1,z1,hx,hz1⟩:=h1
  cases hi with
  | none=>have h2:u=n:=h2;subst h2;simp [Instr.sliceBounds,hb x k1 z1 l u _ hx hz1 hlu]
  | some y=>obtain ⟨k,z,hy,hz⟩:=h2;simp [Instr.sliceBounds,hb y k z u cap _ hy hz (by omega),hb x k1 z1 l u _ hx hz1 hlu]

theorem exec_slice {lo hi:Option Operand} (ho:o.op=.slice t x lo hi none) {a:Act} {v:Value} {w:World} (h:(Instr.sliceAt t (a.eval x) (lo.map a.eval) (hi.map a.eval) none).run P w=.ok v w):(execOp a.eval o).run P w=.ok (.value v) w:=by
 simp only [execOp,ho]
 exact vOk h

theorem rd_sliceR {e:TypeId} {m n l v:Nat} {f:Nat→Nat→CV} {lo hi:Option Operand} (ho:o.op=.slice t x lo hi none) (hx:s.eval x=.rs m n f) (h1:P.underlying t=some (.slice e)) (h5:(P.info? e).map (·.size)=some m)
  (hl:Bd s 0 lo l) (hu:Bd s n hi v) (hlv:l≤v) (hvn:v≤n):ARd P G o s (.rs m (v-l) fun i j=>f (l+i) j):=fun St a w h=>by
 obtain ⟨info,hi',hs⟩:=Option.map_eq_some_iff.1 h5
 obtain ⟨ao,cap,e0,h2,h3,h4,h6⟩:=evR h hx
 refine ⟨.slice (if cap=l then ao else ao.map (·.add (l * m))) (v-l) (cap-l),fun W _=>exec_slice ho ?_,_,_,rfl,by omega,by omega,fun hn=>?_,fun ad had hn=>?_⟩
 ·rw [e0]
  simp [Instr.sliceAt,Instr.slice,underlying,h1,run_bounds h hl hu hlv hvn h2,sizeOf,typeInfo,hi',hs]
 ·split at hn
  ·have:=h4 hn;omega
  simp_all
 ·have hne:¬ cap=l:=by omega
  rw [if_neg hne] at had
  obtain ⟨ad0,rfl,rfl⟩:=Option.map_eq_some_iff.1 had
  obtain ⟨h7,h8,h9⟩:=h6 ad0 rfl (by omega)
  obtain ⟨b,q,sp⟩:=ad0
  simp only at h7 h8 h9
  subst h7
  rw [addr_add]
  refine ⟨rfl,h8,fun i j hi2 hj=>?_⟩
  obtain ⟨vv,hv,hr⟩:=h9 (l+i) j (by omega) hj
  grind
theorem rd_sliceO {e:TypeId} {i off m n l v:Nat} {g:Option Nat} {lo hi:Option Operand} (ho:o.op=.slice t x lo hi none) (hx:s.eval x=.os i g off n m) (h1:P.underlying t=some (.slice e)) (h5:(P.info? e).map (·.size)=some m)
  (hl:Bd s 0 lo l) (hu:Bd s n hi v) (hlv:l≤v) (hvn:v≤n) (hln:l=0∨l<n):ARd P G o s (.os i g (off+l * m) (v-l) m):=fun St a w h=>by
 obtain ⟨info,hi',hs⟩:=Option.map_eq_some_iff.1 h5
 have he:=evR h hx
 cases g with
 | none =>
  obtain ⟨h2,h3⟩:=he
  subst h2
  have hl0:l=0:=by omega
  have hv0:v=0:=by omega
  subst hl0 hv0
  refine ⟨.slice none 0 0,fun W _=>exec_slice ho ?_,rfl,rfl⟩
  rw [h3]
  simp [Instr.sliceAt,Instr.slice,underlying,h1,run_bounds h hl hu hlv hvn (Nat.le_refl _),sizeOf,typeInfo,hi']
 | some b =>
  obtain ⟨cap,e0,h2,h3,cur,ty,z,h4,h6⟩:=he
  refine ⟨.slice (some ⟨b,off+l * m,none⟩) (v-l) (cap-l),fun W _=>exec_slice ho ?_,cap-l,rfl,by omega,by omega,cur,ty,z,h4,?_⟩
  ·rw [e0]
   have e1:(if cap=l then some (⟨b,off,none⟩:Addr) else some (Addr.add ⟨b,off,none⟩ (l * m)))=some ⟨b,off+l * m,none⟩:=by
    split
    ·grind
    ·rw [addr_add]
   simp [Instr.sliceAt,Instr.slice,underlying,h1,run_bounds h hl hu hlv hvn h2,sizeOf,typeInfo,hi',hs]
   exact e1
  ·have:l * m+(cap-l) * m=cap * m:=by rw [← Nat.add_mul];congr 1;omega
   omega
theorem rd_sliceA {e:TypeId} {i off m n l v:Nat} {g:Option Nat} {lo hi:Option Operand} {N:Nat} {f:Nat→CV} (ho:o.op=.slice t x lo hi none) (hx:s.eval x=.op i g off) (hH:Holds s i g N f) (hN:off+n * m≤N) (h1:P.underlying t=some (.array n e)) (h5:(P.info? e).map (·.size)=some m)
  (hl:Bd s 0 lo l) (hu:Bd s n hi v) (hlv:l≤v) (hvn:v≤n) (hln:l<n) (hb:Nat.ble n 9223372036854775807=true):ARd P G o s (.os i g (off+l * m) (v-l) m):=fun St a w h=>by
 obtain ⟨info,hi',hs⟩:=Option.map_eq_some_iff.1 h5
 obtain ⟨b,rfl,e0⟩:=evR h hx
 have hb:=Nat.le_of_ble_eq_true hb
 obtain ⟨_,cur,ty,z,hh,hle,_⟩:=holdCells h hH
 refine ⟨.slice (some ⟨b,off+l * m,none⟩) (v-l) (n-l),fun W _=>exec_slice ho ?_,n-l,rfl,by omega,by omega,cur,ty,z,hh,?_⟩
 ·rw [e0]
  simp [Instr.sliceAt,underlying,h1,Instr.sureAddr,run_bounds h hl hu hlv hvn (Nat.le_refl _),sizeOf,typeInfo,hi',hs,addr_add,show ¬ n=l by omega]
 ·have:l * m+(n-l) * m=n * m:=by rw [← Nat.add_mul];congr 1;omega
  omega
theorem rd_sliceS {b:ByteArray} {l v:Nat} {lo hi:Option Operand} (ho:o.op=.slice t x lo hi none) (hx:s.eval x=.c (.string b)) (h1:P.underlying t=some .string)
  (hl:Bd s 0 lo l) (hu:Bd s b.size hi v) (hlv:l≤v) (hvn:v≤b.size):ARd P G o s (.c (.string (b.extract l v))):=fun St a w h =>
 ⟨_,fun W _=>exec_slice ho (by rw [evC h hx];simp [Instr.sliceAt,Instr.slice,underlying,h1,run_bounds h hl hu hlv hvn (Nat.le_refl _)]),rfl⟩

theorem bs_piece (l:List UInt8) (p q:Nat) (hpq:p≤q) (hq:q≤l.length):CEnt (.rs 1 (q-p) fun i _=>byF l (p+i)) (bsC ((l.take q).drop p)):=by
 refine CEnt.rs (by simp;omega) fun i j hi hj=>CEnt.of_eq ?_
 grind [byF]
theorem bs_from (l:List UInt8) (p:Nat) (hp:p≤l.length):CEnt (.rs 1 (l.length-p) fun i _=>byF l (p+i)) (bsC (l.drop p)):=by
 refine CEnt.rs (by simp) fun i j hi hj=>CEnt.of_eq ?_
 simp [byF,List.getD]
theorem bs_to (l:List UInt8) (q:Nat) (hq:q≤l.length):CEnt (.rs 1 (q-0) fun i _=>byF l (0+i)) (bsC (l.take q)):=by
 have:=bs_piece l 0 q (by omega) hq
 simpa using this

theorem rd_makeFunc {g:FuncId} {cs:Array Operand} {n:Nat} (ho:o.op=.makeFunc (.func g) #[] cs) (hn:cs.size=n):ARd P G o s (.fn g n (fl (cs.toList.map s.eval))):=fun St a w h =>
 ⟨.func (.func g) #[] (cs.map a.eval),fun W _=>by simp_all [execOp,Instr.makeFunc],_,rfl,by simp [hn],fun i hi=>by
  rw [fl_get]
  simp [List.getD,show i<cs.size by omega]
  exact h.eval _⟩
theorem RelSt.freshRS {St:Nat→Prop} {a:Act} {w w':World} (h:RelSt G St s a w) (hb:Below w.heap.size w w') {g:Nat} (hg:w.heap.size≤g) (hlt:g<w'.heap.size):RelSt G (fun b=>St b∨b=g) s a w':=by
 have h1:=h.ext hb
 have he:Evo St w' w':=⟨fun _ _ _ _ _ h=>h,fun b cur t z h=>⟨cur,z,h,rfl⟩⟩
 have hs:∀ b,St b→St b∨b=g:=fun _ h=>.inl h
 obtain ⟨fp0,hp0⟩:=h.hp
 refine ⟨h1.df.grow hs,h1.sz,fun d=>RepC.evo he hs _ _ (h1.env d),h1.un,fun b hb=>.inl (h1.s1 b hb),fun b hb=>?_,fun b hb=>?_,?_,h1.sn,fun g hg=>.inl (h1.sg.1 g hg),fun x hx=>.inl (h1.sg.2 x hx)⟩
 ·rcases hb with hb|rfl
  ·exact h1.s2 b hb
  ·exact .inr (.inl (Nat.le_trans h.un.size hg))
 ·rcases hb with hb|rfl
  ·exact h1.s3 b hb
  ·exact hlt
 ·have he2:=Evo.of_below hb h.s3
  refine ⟨fp0,fun i q r hi=>Res.rep_evo he2 hs (fun b hF=>hb.block b (hp0.own i b hF).1) (hp0.rep i q r hi),hp0.dis,fun i b hF=>?_,hp0.out⟩
  obtain ⟨h2,h3,h4⟩:=hp0.own i b hF
  grind

theorem ex_convSB {e:TypeId} {l:ByteArray} (ho:o.op=.convert t u x) (hx:s.eval x=.c (.string l)) (h1:P.underlying t=some .string) (h2:P.underlying u=some (.slice e)) (h3:P.underlying e=some (.int .u8)) (hl:l.size≤9223372036854775807) (hd:dstOk G o=true)
  (hK:K (s.with o.dst (bsC l.data.toList) s.H)):AEx P G o s K:=fun St a w hr Q=>by
 have hlen:l.data.size=l.size:=rfl
 let cap:=grownCap w l.size 0 e
 have hgc:l.size≤cap∧cap≤9223372036854775807:=by
  have hlt:=Nat.mod_lt (w.tape w.drawn (.appendCap l.size 0 e)) (show 0<2 ^ 63-l.size by omega)
  simp only [cap,grownCap,Question.cut]
  omega
 let cs:Array Value:=(l.data.map fun b=>.int .u8 (b.toNat:Nat))++Array.replicate (cap-l.size) (.int .u8 0)
 have hcs:cs.size=cap:=by simp [cs,hlen];omega
 let w1:=w.drew.alloc (.cells cs e)
 have hw1:w1.heap[w.heap.size]?=some (.cells cs e (0,0)):=heap_alloc_new w.drew _
 let w2:=w1.freeze { block:=w.heap.size,off:=cs.size } 1
 have hb1:Below w.heap.size w w1:=below_drewAlloc w _
 have hw2:w2.heap[w.heap.size]?=some (.cells cs e (cs.size,cs.size+1)):=by
  simp only [w2,World.freeze]
  rw [if_neg (by decide)]
  simp only [Array.getElem?_modify,hw1,if_true,Option.map_some]
  simp
 have hb2:Below w.heap.size w w2:=by
  refine ⟨?_,?_,?_,?_,fun k hk=>?_⟩
  ·simp only [w2,World.freeze];rw [if_neg (by decide)];exact hb1.os
  ·simp only [w2,World.freeze];rw [if_neg (by decide)];exact hb1.tape
  ·simp only [w2,World.freeze];rw [if_neg (by decide)];exact hb1.output
  ·grind
  ·simp only [w2,World.freeze]
   rw [if_neg (by decide)]
   simp only [Array.getElem?_modify]
   rw [if_neg (by omega)]
   exact hb1.block k hk
 have hrun:(execOp a.eval o).run P w=.ok (.value (.slice (some ⟨w.heap.size,0,none⟩) l.size cap)) w2:=by
  simp only [execOp,ho,evC hr hx]
  refine vOk ?_
  have hch:(choose (.appendCap l.size 0 e)).run P w=.ok cap w.drew:=by simp [Question.forced,grownCap,cap]
  have hsh:w1.shape? w.heap.size=some (e,cs.size):=by simp [World.shape?,hw1]
  simp only [convert,underlying,Sem.run_bind,run_program,Result.andThen_ok,h1,h2,h3,Sem.run_pure,Conv.stringToBytes,hch,newRow,run_newObj,World.size_drew,World.alloc_eq]
  simp only [markStringish,Sem.run_bind,run_shape]
  show ((Result.ok (w1.shape? w.heap.size) w1).andThen _).andThen _=_
  rw [hsh]
  rfl
 unfold Oper.wp
 rw [hrun]
 refine ⟨hb2,fun b=>St b∨b=w.heap.size,fun _ h=>.inl h,_,hK,?_⟩
 have h4:=(hr.freshRS hb2 (Nat.le_refl _) (Array.getElem?_eq_some_iff.1 hw2).1).put (dst:=o.dst) (v:=bsC l.data.toList) (x:=.slice (some ⟨w.heap.size,0,none⟩) l.size cap) (dst_of hd) ⟨_,cap,by simp;rfl,by simp [hlen];exact hgc.1,hgc.2,(fun h=>by cases h),fun ad had _=>by
  have:=Option.some.inj had
  subst this
  refine ⟨rfl,.inr rfl,fun i j hi hj=>?_⟩
  have hi:i<l.data.size:=by simpa using hi
  refine ⟨.int .u8 (l.data[i].toNat:Nat),?_,?_⟩
  ·show w2.cell? ⟨w.heap.size,0+(i * 1+j),none⟩=_
   rw [cell_of_row w2 w.heap.size _ cs e _ hw2,show 0+(i * 1+j)=i by omega]
   grind
  ·have e9:l.data[i]?=some l.data[i]:=Array.getElem?_eq_getElem hi
   simp [byF,List.getD,e9]
   rfl⟩
 cases ho:o.dst with
 | none=>rw [ho] at h4;exact h4
 | some d=>rw [ho] at h4;exact h4
end
end
end Am
end Go.Proofs.YtnijncmifjnifaaGreatDoor
