/- What the law leans on, part 2: Am2, Am3, Am4, Am5, Am6 -/
import Derived.Test.YtghminnpfnkbjaaGreatDoorM1RequestRead

set_option maxRecDepth 100000
set_option maxHeartbeats 8000000
namespace Go.Proofs.YtghminnpfnkbjaaGreatDoor
set_option linter.unusedVariables false
namespace Am
open Go.RowKit
section
variable {P:Program} {G:Gh} {ops:Array Oper} {o:Oper} {s:AS} {r:List Oper} {K:AS→Prop}

def br (G:Gh) (ops:Array Oper) (o:Oper) (s:AS) (b:Bool):Prop:=∀ St a w,az G St s a w→Region.wanted o (yielded ops a.tmps)=b
theorem bw (h:o.guard=none):br G ops o s true:=fun _ _ _ _=>by simp [Region.wanted,h]
theorem dm {j d:Nat} {b t:Bool} (h:o.guard=some (j,b)) (hd:(ops[j]?).bind (·.dst)=some d) (hN:Nat.blt d G.N=true) (hl:look s.env s.b d=.c (.bool t)) (u:Bool) (hu:(t == b)=u):br G ops o s u:=fun St a w hr=>by
 have hlt:d<a.tmps.size:=by rw [hr.sz];exact YU hN
 have he:=hr.env d
 rw [hl] at he
 have he:a.tmps.getD d undef=.bool t:=he
 have hg:a.tmps[d]?=some (.bool t):=by
  rw [YV hlt,← he]
  simp [hlt]
 simp only [Region.wanted,h,yielded,hd,Option.bind_some,hg]
 rw [← hu]
 cases t <;> cases b <;> rfl

def ci (P:Program) (G:Gh) (o:Oper) (s:AS) (v:CV):Prop:=∀ St a w,az G St s a w→∃ x,(∀ W,eX St w W→(execOp a.eval o).run P W=.ok (.value x) W)∧ba G.al St w v x
def kF (P:Program) (G:Gh) (o:Oper) (s:AS) (v:CV):Prop:=∀ St a w,az G St s a w→∃ x,(∀ W,Below w.heap.size w W→(execOp a.eval o).run P W=.ok (.value x) W)∧ba G.al St w v x
theorem iq {St:Nat→Prop} {a:Act} {w W:World} (h:az G St s a w) (hW:Below w.heap.size w W):eX St w W:=fun b hb=>hW.block b (h.s3 b hb)
theorem ci.own {v:CV} (h:ci P G o s v):kF P G o s v:=fun St a w hr=>by
 obtain ⟨x,h1,h2⟩:=h St a w hr
 exact ⟨x,fun W hW=>h1 W (iq hr hW),h2⟩
def kQ (P:Program) (G:Gh) (o:Oper) (s:AS) (K:AS→Prop):Prop:=∀ St a w,az G St s a w→∀ Q,o.wp P a w (fun a' w'=>Below w.heap.size w w'∧∃ St',(∀ b,St b→St' b)∧∃ s',K s'∧az G St' s' a' w') Q
def ug (P:Program) (G:Gh) (o:Oper) (s:AS) (K:AS→Prop):Prop:=∀ St a w,az G St s a w→∀ Q,o.wp P a w (fun a' w'=>eX St w w'∧∃ St',(∀ b,St b→St' b)∧∃ s',K s'∧az G St' s' a' w') Q

def Xu (G:Gh) (P:Program) (o:Oper) (a:Act) (w:World) (K:Act→World→Prop) (Q:Exit→Act→World→Prop):Prop:=o.wp P a w K Q∨(G.yl=true∧o.wpIn (GW G.rd) 0 P a w K Q)
def mP (G:Gh) (P:Program) (ops:Array Oper) (Q:Exit→Act→World→Prop):List Oper→Act→World→Prop
 | [],a,w=>Q .normal a w
 | o::r,a,w=>if Region.wanted o (yielded ops a.tmps) then Xu G P o a w (mP G P ops Q r) Q else mP G P ops Q r (a.put o.dst undef) w

theorem kT {Q:Exit→Act→World→Prop} (hy:G.yl=false):∀ (l:List Nat) (a:Act) (w:World),mP G P ops Q (l.filterMap (ops[·]?)) a w→wpOps P ops Q l a w
 | [],_,_,h=>h
 | i::l,a,w,h=>by
  unfold wpOps
  cases hi:ops[i]? with
  | none =>
   simp only [alx,hi] at h ⊢
   exact kT hy l a w h
  | some o =>
   simp only [alx,hi,mP] at h ⊢
   split
   ·rename_i hw
    rw [YF hw] at h
    rcases h with h|h
    ·exact .inl (Oper.wp_mono (fun a' w' h'=>kT hy l a' w' h') h)
    ·rw [hy] at h;cases h.1
   ·rename_i hw
    rw [YE hw] at h
    exact kT hy l _ w h
theorem gA {Q:Exit→Act→World→Prop} (hd:Gq G.rd ops=true):∀ (l:List Nat) (a:Act) (w:World),mP G P ops Q (l.filterMap (ops[·]?)) a w→wpOpsIn (GW G.rd) 0 P ops Q l a w
 | [],_,_,h=>h
 | i::l,a,w,h=>by
  unfold wpOpsIn
  cases hi:ops[i]? with
  | none =>
   simp only [alx,hi] at h ⊢
   exact gA hd l a w h
  | some o =>
   simp only [alx,hi,mP] at h ⊢
   split
   ·rename_i hw
    rw [YF hw] at h
    rcases h with h|h
    ·exact Oper.wp_in (L8 hd hi) (Oper.wp_mono (fun a' w' h'=>gA hd l a' w' h') h)
    ·exact Oper.wpIn_mono (fun a' w' h'=>gA hd l a' w' h') h.2
   ·rename_i hw
    rw [YE hw] at h
    exact ⟨fun f _=>trivial,gA hd l _ w h⟩

theorem oy (ops:Array Oper):(List.range ops.size).filterMap (ops[·]?)=ops.toList:=by
 apply aXx
 intro i
 have h:∀ (l:List Nat),(∀ x ∈ l,x<ops.size)→l.filterMap (ops[·]?)=l.map fun x=>ops.getD x default:=by
  intro l hl
  induction l with
  | nil=>rfl
  | cons x l ih =>
   have hx:=hl x (Y2 ..)
   simp only [alx,Zc,YV hx]
   rw [ih fun y hy=>hl y (Y7 _ hy)]
   simp [hx]
 rw [h _ (fun x hx=>aqx.1 hx)]
 by_cases hi:i<ops.size
 ·simp [hi]
 ·simp [hi]

def cJ (P:Program) (G:Gh) (ops:Array Oper) (l:List Oper) (s:AS) (K:AS→Prop):Prop :=
 ∀ a w,vy G s a w→∀ Q:Exit→Act→World→Prop,(∀ s' a' w',K s'→vy G s' a' w'→Q .normal a' w')→mP G P ops Q l a w

def cq (G:Gh) (o:Oper):Bool:=match o.dst with|some d=>Nat.blt d G.N|none=>true
theorem eC (h:cq G o=true):∀ d,o.dst=some d→d<G.N:=fun d hd=>by
 simp only [cq,hd] at h
 exact YU h

theorem jN (h:K s):cJ P G ops [] s K:=fun _ _ hr _ hQ=>hQ _ _ _ h hr
theorem F9 {v:CV} (hw:br G ops o s true) (hd:cq G o=true) (h:kF P G o s v) (hk:cJ P G ops r (s.put o.dst v) K):cJ P G ops (o::r) s K:=fun a w ⟨St,hr⟩ Q hQ=>by
 unfold mP
 rw [YF (hw St a w hr)]
 refine .inl ?_
 obtain ⟨x,hx,hv⟩:=h St a w hr
 unfold Oper.wp
 rw [hx w (Below.refl _ _)]
 exact hk _ _ ⟨St,hr.put (eC hd) hv⟩ Q hQ
theorem TM {v:CV} (hw:br G ops o s true) (hd:cq G o=true) (h:ci P G o s v) (hk:cJ P G ops r (s.put o.dst v) K):cJ P G ops (o::r) s K:=F9 hw hd h.own hk
theorem Lp (hw:br G ops o s false) (hd:cq G o=true) (hk:cJ P G ops r (s.put o.dst (.c undef)) K):cJ P G ops (o::r) s K:=fun a w ⟨St,hr⟩ Q hQ=>by
 unfold mP
 rw [YE (by rw [hw St a w hr];exact Bool.false_ne_true)]
 exact hk _ _ ⟨St,hr.put (v:=.c undef) (eC hd) rfl⟩ Q hQ
theorem TN (hw:br G ops o s true) (h:kQ P G o s (fun s'=>cJ P G ops r s' K)):cJ P G ops (o::r) s K:=fun a w hr Q hQ=>by
 unfold mP
 obtain ⟨St,hs⟩:=id hr
 rw [YF (hw St a w hs)]
 exact .inl (Oper.wp_mono (fun a' w' ⟨_,St',_,s',h1,h2⟩=>h1 a' w' ⟨St',h2⟩ Q hQ) (h St a w hs Q))
theorem Lq (hw:br G ops o s true) (h:ug P G o s (fun s'=>cJ P G ops r s' K)):cJ P G ops (o::r) s K:=fun a w hr Q hQ=>by
 unfold mP
 obtain ⟨St,hs⟩:=id hr
 rw [YF (hw St a w hs)]
 exact .inl (Oper.wp_mono (fun a' w' ⟨_,St',_,s',h1,h2⟩=>h1 a' w' ⟨St',h2⟩ Q hQ) (h St a w hs Q))
theorem kQ.md (h:kQ P G o s K):ug P G o s K:=fun St a w hr Q=>Oper.wp_mono (fun _ _ h=>⟨iq hr h.1,h.2⟩) (h St a w hr Q)

def AX (P:Program) (G:Gh) (ops:Array Oper) (t:eN) (s:AS) (K:AS→Prop):Prop :=
 ∀ a w,vy G s a w→∀ (Q:Exit→Act→World→Prop) (R:Act→World→Prop),(∀ s' a' w',K s'→vy G s' a' w'→R a' w')→mO P ops Q R t a w

theorem TC (h:K s):AX P G ops .done s K:=fun _ _ hr _ _ hQ n=>hQ _ _ _ h (hr.ext n.below)
theorem SK {t:eN} {v:CV} (hw:br G ops o s true) (hd:cq G o=true) (h:kF P G o s v) (hk:AX P G ops t (s.put o.dst v) K):AX P G ops (.rd o t) s K:=fun a w ⟨St,hr⟩ Q R hQ=>by
 obtain ⟨x,hx,hv⟩:=h St a w hr
 exact ⟨x,.inl ⟨hw St a w hr,fun W hW=>hx W hW⟩,hk _ _ ⟨St,hr.put (eC hd) hv⟩ Q R hQ⟩
theorem Xh {t:eN} {v:CV} (hw:br G ops o s true) (hd:cq G o=true) (h:ci P G o s v) (hk:AX P G ops t (s.put o.dst v) K):AX P G ops (.rd o t) s K:=SK hw hd h.own hk
theorem TB {t:eN} (hw:br G ops o s false) (hd:cq G o=true) (hk:AX P G ops t (s.put o.dst (.c undef)) K):AX P G ops (.rd o t) s K:=fun a w ⟨St,hr⟩ Q R hQ =>
 ⟨undef,.inr ⟨hw St a w hr,rfl⟩,hk _ _ ⟨St,hr.put (v:=.c undef) (eC hd) rfl⟩ Q R hQ⟩
theorem SL {t:eN} (hw:br G ops o s true) (h:kQ P G o s (fun s'=>AX P G ops t s' K)):AX P G ops (.one o t) s K:=fun a w hr Q R hQ n=>by
 obtain ⟨St,hs⟩:=id hr
 rw [YF (hw St a w hs)]
 exact Oper.wp_mono (fun a' w' ⟨hb,St',_,s',h1,h2⟩=>⟨hb,h1 a' w' ⟨St',h2⟩ Q R hQ⟩) (h St a n.w (hs.ext n.below) Q)
theorem PF {t:eN} (hw:br G ops o s false) (hd:cq G o=true) (hk:AX P G ops t (s.put o.dst (.c undef)) K):AX P G ops (.one o t) s K:=fun a w ⟨St,hr⟩ Q R hQ n=>by
 rw [YE (by rw [hw St a w hr];exact Bool.false_ne_true)]
 exact hk _ _ ⟨St,hr.put (v:=.c undef) (eC hd) rfl⟩ Q R hQ
theorem VU {p:Oper} {t u:eN} (h1:AX P G ops (.one o t) s K) (h2:AX P G ops (.one p u) s K):AX P G ops (.two o t p u) s K:=fun a w hr Q R hQ=>⟨h1 a w hr Q R hQ,h2 a w hr Q R hQ⟩
theorem PC {p q:Oper} {t u v:eN} (h1:AX P G ops (.one o t) s K) (h2:AX P G ops (.one p u) s K) (h3:AX P G ops (.one q v) s K):AX P G ops (.three o t p u q v) s K:=fun a w hr Q R hQ=>⟨h1 a w hr Q R hQ,h2 a w hr Q R hQ,h3 a w hr Q R hQ⟩

def AZ (P:Program) (G:Gh) (ops:Array Oper) (t:eN) (s:AS) (K:AS→Prop):Prop :=
 ∀ St a w,az G St s a w→∀ Q:Exit→Act→World→Prop,(∀ s' a' w',K s'→vy G s' a' w'→Q .normal a' w')→∃ St',(∀ b,St b→St' b)∧l8 P ops Q St' t a w
theorem Tx (h:K s):AZ P G ops .done s K:=fun St _ _ hr _ hQ=>⟨St,fun _ h=>h,hQ _ _ _ h ⟨_,hr⟩⟩
theorem Xe {t:eN} {v:CV} (hw:br G ops o s true) (hd:cq G o=true) (h:ci P G o s v) (hk:AZ P G ops t (s.put o.dst v) K):AZ P G ops (.rd o t) s K:=fun St a w hr Q hQ=>by
 obtain ⟨x,hx,hv⟩:=h St a w hr
 obtain ⟨St',hs,h2⟩:=hk _ _ _ (hr.put (eC hd) hv) Q hQ
 exact ⟨St',hs,x,.inl (jn.grow hs (.inl ⟨hw St a w hr,fun W hW=>hx W hW⟩)),h2⟩
theorem VR {t:eN} {v:CV} (hw:br G ops o s true) (hd:cq G o=true) (hb:ownB ops o=true) (h:kF P G o s v) (hk:AZ P G ops t (s.put o.dst v) K):AZ P G ops (.rd o t) s K:=fun St a w hr Q hQ=>by
 obtain ⟨x,hx,hv⟩:=h St a w hr
 obtain ⟨St',hs,h2⟩:=hk _ _ _ (hr.put (eC hd) hv) Q hQ
 exact ⟨St',hs,x,.inr ⟨hb,.inl ⟨hw St a w hr,fun W hW=>hx W hW⟩⟩,h2⟩
theorem Tw {t:eN} (hw:br G ops o s false) (hd:cq G o=true) (hk:AZ P G ops t (s.put o.dst (.c undef)) K):AZ P G ops (.rd o t) s K:=fun St a w hr Q hQ=>by
 obtain ⟨St',hs,h2⟩:=hk _ _ _ (hr.put (v:=.c undef) (eC hd) rfl) Q hQ
 exact ⟨St',hs,undef,.inl (.inr ⟨hw St a w hr,rfl⟩),h2⟩
theorem Xf {t:eN} (hw:br G ops o s true) (hm:zG o=true) (h:ug P G o s (fun s'=>AZ P G ops t s' K)):AZ P G ops (.one o t) s K:=fun St a w hr Q hQ=>by
 refine ⟨St,fun _ h=>h,?_⟩
 unfold l8
 rw [YF (hw St a w hr)]
 refine Oper.wp_mono (fun a' w' ⟨hb,St',hs,s',h1,h2⟩=>?_) (h St a w hr Q)
 obtain ⟨St2,hs2,h3⟩:=h1 St' a' w' h2 Q hQ
 exact ⟨⟨hb,fun h=>by rw [bPx,hm] at h;cases h⟩,St2,fun b hb=>hs2 b (hs b hb),h3⟩
theorem VS {t:eN} (hw:br G ops o s true) (h:kQ P G o s (fun s'=>AZ P G ops t s' K)):AZ P G ops (.one o t) s K:=fun St a w hr Q hQ=>by
 refine ⟨St,fun _ h=>h,?_⟩
 unfold l8
 rw [YF (hw St a w hr)]
 refine Oper.wp_mono (fun a' w' ⟨hb,St',hs,s',h1,h2⟩=>?_) (h St a w hr Q)
 obtain ⟨St2,hs2,h3⟩:=h1 St' a' w' h2 Q hQ
 exact ⟨⟨iq hr hb,fun _=>hb⟩,St2,fun b hb=>hs2 b (hs b hb),h3⟩
theorem Ps {t:eN} {v:CV} (hw:br G ops o s true) (hd:cq G o=true) (h:kF P G o s v) (hk:AZ P G ops t (s.put o.dst v) K):AZ P G ops (.one o t) s K :=
 VS hw fun St a w hr Q=>by
  obtain ⟨x,hx,hv⟩:=h St a w hr
  unfold Oper.wp
  rw [hx w (Below.refl _ _)]
  exact ⟨Below.refl _ _,St,fun _ h=>h,_,hk,hr.put (eC hd) hv⟩
theorem VQ {p:Oper} {t u:eN} (h1:AZ P G ops (.one o t) s K) (h2:AZ P G ops (.one p u) s K):AZ P G ops (.two o t p u) s K:=fun St a w hr Q hQ=>by
 obtain ⟨S1,hs1,h3⟩:=h1 St a w hr Q hQ
 obtain ⟨S2,hs2,h4⟩:=h2 St a w hr Q hQ
 have h3:=vA hs1 h3
 have h4:=vA hs2 h4
 unfold l8 at h3 h4
 exact ⟨St,fun _ h=>h,h3,h4⟩
def bj (P:Program) (G:Gh) (c:Code) (s:AS) (R:Exit→AS→Prop):Prop :=
 ∀ a w,vy G s a w→∀ Q:Exit→Act→World→Prop,(∀ e s' a' w',R e s'→vy G s' a' w'→Q e a' w')→c.wpIn (GW G.rd) 0 P Q a w
def rM (Y:AS→Prop) (R:Exit→AS→Prop):Exit→AS→Prop
 | .normal,s=>Y s
 | e,s=>R e s
def om (id:Nat) (R:Exit→AS→Prop):Exit→AS→Prop
 | .exit j,s=>match Nat.beq j id with|true=>R .normal s|false=>R (.exit j) s
 | e,s=>R e s
variable {R:Exit→AS→Prop} {x y c:Code}

theorem uH {id:Nat} (h:cJ P G ops ops.toList s (R .normal)) (hd:Gq G.rd ops=true:=by rfl):bj P G (.region id ops false) s R:=fun a w hr Q hQ =>
 wpIn_region (gA hd _ a w (by rw [oy];exact h a w hr Q (hQ .normal)))
theorem J5 {id:Nat} (t:kE) (hm:P.follows .mixedOrders=true) (hs:Region.noSelect ops=true) (hl:t.len=ops.size) (hin:t.within ops.size=true)
  (hB:dX .any ops t (Array.replicate ops.size false)=true) (h:AX P G ops (aG ops t) s (R .normal)) (hd:Gq G.rd ops=true:=by rfl):bj P G (.region id ops true) s R:=fun a w hr Q hQ =>
 vD hd hm (WY t hs hl hin hB (dQ _ _ _ (h a w hr _ _ (fun s' a' w' h1 h2=>NoPanic.normal (hQ .normal s' a' w' h1 h2)))))
theorem EK (ops:Array Oper) (m:Nat) (hm:m≤ops.size):((List.range (ops.size-m)).map (m+·)).filterMap (ops[·]?)=ops.toList.drop m:=by
 rw [← oy,show List.range ops.size=List.range m++(List.range (ops.size-m)).map (m+·) by
  conv=>lhs;rw [show ops.size=m+(ops.size-m) by omega,List.range_add]]
 rw [List.filterMap_append]
 have e:((List.range m).filterMap (ops[·]?)).length=m:=by
  have h:∀ l:List Nat,(∀ x ∈ l,x<ops.size)→(l.filterMap (ops[·]?)).length=l.length:=by
   intro l hl
   induction l with
   | nil=>rfl
   | cons x l ih =>
    simp only [alx,YV (hl x (Y2 ..)),List.length_cons]
    rw [ih fun y hy=>hl y (Y7 _ hy)]
  rw [h _ (fun x hx=>by have:=aqx.1 hx;omega),List.length_range]
 rw [List.drop_left' e]
theorem FA {id:Nat} (m:Nat) (t:kE) (hmix:P.follows .mixedOrders=true) (hs:Region.noSelect ops=true) (hm:Nat.ble m ops.size=true) (hl:t.len=m) (hin:t.within ops.size=true) (hc:n9 .any ops m=true)
  (hB:fP .any ops m t (Array.replicate ops.size false)=true) (ht:vO .any ops (ops.size-m) m (yk m ops.size)=true)
  (h:AX P G ops (aG ops t) s (fun s'=>cJ P G ops (ops.toList.drop m) s' (R .normal))) (hd:Gq G.rd ops=true:=by rfl) (hy:G.yl=false:=by rfl):bj P G (.region id ops true) s R:=fun a w hr Q hQ =>
 vD hd hmix (Vr m t hs hm hl hin hc hB ht (h a w hr _ _ (fun s' a' w' h1 h2=>kT hy _ a' w' (by
  rw [EK ops m (YU hm)]
  exact h1 a' w' h2 _ (fun s'' a'' w'' h3 h4=>NoPanic.normal (hQ .normal s'' a'' w'' h3 h4))))))
theorem Fz {id:Nat} (u:kE) (hmix:P.follows .mixedOrders=true) (hs:Region.noSelect ops=true) (hul:u.len=ops.size) (huin:u.within ops.size=true) (hu:dX .any ops u (Array.replicate ops.size false)=true)
  (h:AZ P G ops (aG ops u) s (R .normal)) (hd:Gq G.rd ops=true:=by rfl):bj P G (.region id ops true) s R:=fun a w ⟨St,hr⟩ Q hQ =>
 let ⟨St',_,h5⟩:=h St a w.drew (hr.ext (mA w)) (NoPanic (Al Q)) (fun s'' a'' w'' h3 h4=>NoPanic.normal (hQ .normal s'' a'' w'' h3 h4))
 vD hd hmix (WZ (S:=St') u hs hul huin hu h5)
theorem xx (h:bj P G x s (rM (fun s'=>bj P G y s' R) R)):bj P G (.seq x y) s R:=fun a w hr Q hQ =>
 wpIn_seq (h a w hr _ (fun e s' a' w' h1 h2=>by
  cases e with
  | normal=>exact h1 a' w' h2 Q hQ
  | _=>exact hQ _ s' a' w' h1 h2))
theorem t7 {d:Operand} {t:Bool} (hl:s.eval d=.c (.bool t)) (ht:t=true→bj P G x s R) (hf:t=false→bj P G y s R):bj P G (.cond d x y) s R:=fun a w hr Q hQ=>by
 obtain ⟨St,hs⟩:=id hr
 have he:=hs.eval d
 rw [hl] at he
 have he:a.eval d=.bool t:=he
 exact wpIn_cond_split he (fun h=>ht h a w hr Q hQ) (fun h=>hf h a w hr Q hQ)
theorem jB {id:Nat} (h:bj P G c s (om id R)):bj P G (.block id c) s R:=fun a w hr Q hQ =>
 wpIn_block (h a w hr _ (fun e s' a' w' h1 h2=>by
  cases e with
  | exit j =>
   show if j=id then _ else _
   rcases qy j id with ⟨hb,hj⟩|⟨hb,hj⟩
   ·rw [YF hj]
    simp only [om,hb] at h1
    exact hQ .normal s' a' w' h1 h2
   ·rw [YE hj]
    simp only [om,hb] at h1
    exact hQ _ s' a' w' h1 h2
  | _=>exact hQ _ s' a' w' h1 h2))
theorem jX {id:Nat} (h:R (.exit id) s):bj P G (.exit id) s R:=fun a w hr _ hQ=>wpIn_exit (hQ _ s a w h hr)
theorem jR (h:R .ret s):bj P G .ret s R:=fun a w hr _ hQ=>wpIn_ret (hQ _ s a w h hr)
theorem jS (h:R .normal s):bj P G .skip s R:=fun a w hr _ hQ=>wpIn_skip (hQ _ s a w h hr)
def dh (G:Gh) (s s':AS):Prop:=∀ St a w,az G St s a w→∃ St',(∀ b,St b→St' b)∧az G St' s' a w
theorem dh.rel {s s':AS} (h:dh G s s') {a:Act} {w:World} (hr:vy G s a w):vy G s' a w:=let ⟨St,hr⟩:=hr;let ⟨St',_,h2⟩:=h St a w hr;⟨St',h2⟩
theorem dh.refl (s:AS):dh G s s:=fun St _ _ h=>⟨St,fun _ h=>h,h⟩
theorem R5 {env env':List (Nat×CV)} {b b':Nat→CV} {H H':List (Option Nat×bi)} (he:∀ d,aa (look env b d) (look env' b' d)) (l:List Nat) (hl:l.Nodup) (hH:im H l=H'):dh G ⟨env,b,H⟩ ⟨env',b',H'⟩:=fun St _ _ h=>by
 have h1:=h.ent he
 exact ⟨St,fun _ h=>h,h1.df,h1.sz,h1.env,h1.un,h1.s1,h1.s2,h1.s3,h1.hp.pick l hl hH,h1.sn,h1.sg⟩
theorem dh.trans {s s' s'':AS} (h:dh G s s') (k:dh G s' s''):dh G s s'':=fun St a w hr=>let ⟨S1,h1,h2⟩:=h St a w hr;let ⟨S2,h3,h4⟩:=k S1 a w h2;⟨S2,fun b hb=>h3 b (h1 b hb),h4⟩
theorem Oy {env:List (Nat×CV)} {b:Nat→CV} {H H':List (Option Nat×bi)} (h:aP H H'):dh G ⟨env,b,H⟩ ⟨env,b,H'⟩:=fun St _ _ hr=>⟨St,fun _ h=>h,hr.df,hr.sz,hr.env,hr.un,hr.s1,hr.s2,hr.s3,hr.hp.hent h,hr.sn,hr.sg⟩
theorem jE {s':AS} (he:dh G s s') (h:bj P G c s' R):bj P G c s R:=fun a w hr Q hQ=>h a w (he.rel hr) Q hQ
theorem Ac {R':Exit→AS→Prop} (h:bj P G c s R') (hR:∀ e s,R' e s→R e s):bj P G c s R:=fun a w hr Q hQ=>h a w hr Q (fun e s' a' w' h1 h2=>hQ e s' a' w' (hR e s' h1) h2)

theorem J4 {α:Type} (S:α→AS) (φ:α→Prop) (μ:α→Nat) (p0:α) (h0:φ p0) (he:dh G s (S p0))
  (hr:∀ p,φ p→bj P G c (S p) (rM (fun s'=>∃ p',φ p'∧μ p'<μ p∧dh G s' (S p')) R)):bj P G (.loop c) s R:=by
 intro a w hrel Q hQ b k cs hro hb hroom
 have key:∀ n p a w,μ p=n→φ p→vy G (S p) a w→∃ e a' w',Q e a' w'∧ArrivesIn (Machine.fenced P (GW G.rd)) P (lone (b.atR a (.code c::.inLoop c::k)) cs w) b k cs e a' w':=by
  intro n
  induction n using Nat.strongRecOn with
  | _ n ih =>
   intro p a w hn hp hrel
   have hwp:=hr p hp a w hrel (Exit.then (fun a' w'=>∃ p',φ p'∧μ p'<μ p∧vy G (S p') a' w') Q) (fun e s' a' w' h1 h2=>by
    cases e with
    | normal =>
     obtain ⟨p',h3,h4,h5⟩:=h1
     exact ⟨p',h3,h4,h5.rel h2⟩
    | _=>exact hQ _ s' a' w' h1 h2)
   obtain ⟨e,a₁,w₁,hq,harr⟩:=hwp b (.inLoop c::k) cs hro hb hroom
   cases e with
   | normal =>
    obtain ⟨p',hp',hlt,hrel'⟩:=hq
    obtain ⟨e₂,a₂,w₂,hq₂,harr₂⟩:=ih (μ p') (hn ▸ hlt) p' a₁ w₁ rfl hp' hrel'
    exact ⟨e₂,a₂,w₂,hq₂,.of_steps (StepsIn.trans harr (.one (fenced_calm hb hroom rfl) stepR_inLoop)) harr₂⟩
   | exit id=>exact ⟨_,a₁,w₁,hq,.pass (x:=.inLoop c) rfl (fun _ _=>.inl (by simp)) harr⟩
   | goto l=>exact ⟨_,a₁,w₁,hq,.pass (x:=.inLoop c) rfl (fun _ _=>.inl (by simp)) harr⟩
   | ret=>exact ⟨_,a₁,w₁,hq,.pass (x:=.inLoop c) rfl (fun _ _=>.inl (by simp)) harr⟩
   | panic ch=>exact ⟨_,a₁,w₁,hq,.pass (x:=.inLoop c) rfl (fun _ _=>.inl (by simp)) harr⟩
   | outgrown=>exact ⟨_,a₁,w₁,hq,.pass (x:=.inLoop c) rfl (fun _ _=>.inl (by simp)) harr⟩
 obtain ⟨e,a',w',hq,harr⟩:=key _ p0 a w rfl h0 (he.rel hrel)
 exact ⟨e,a',w',hq,.of_steps (.one (fenced_calm hb hroom rfl) stepR_loop) harr⟩

def uA (D:List Nat) (env:List (Nat×CV)) (b:Nat→CV) (d:Nat):CV:=match D.any (Nat.beq d) with|true=>.top|false=>look env b d
theorem iO (n:Nat):(List.range n).Nodup:=List.nodup_range
theorem iQ (H:List (Option Nat×bi)) (n:Nat) (hn:n≤H.length):im H (List.range n)=H.take n:=by
 apply aXx
 intro i
 simp only [im,ZB]
 by_cases hi:i<n
 ·rw [aEx hi]
  have:i<H.length:=by omega
  simp [hi,this]
 ·rw [Y6 (by simp;omega)]
  simp [ZV,hi]

inductive Ao (D:List Nat) (b0:Nat→CV):(Nat→CV)→Prop
 | refl:Ao D b0 b0
 | nest {D2:List Nat} {env2:List (Nat×CV)} {b2:Nat→CV}:Ao D b0 b2→(D2.all fun d=>D.any (Nat.beq d))=true→(env2.all fun x=>D.any (Nat.beq x.1))=true→Ao D b0 (uA D2 env2 b2)
theorem qb {D:List Nat}:∀ {l:List (Nat×CV)} (b:Nat→CV) (d:Nat),(l.all fun x=>D.any (Nat.beq x.1))=true→D.any (Nat.beq d)=false→look l b d=b d
 | [],_,_,_,_=>rfl
 |(e,v)::r,b,d,h,hd=>by
  simp only [Z6,YK] at h
  have hne:e≠d:=fun x=>by rw [x,hd] at h;exact absurd h.1 Bool.noConfusion
  rw [dy _ _ _ hne]
  exact qb b d h.2 hd
theorem Ao.ent {D:List Nat} {b0 b':Nat→CV} (h:Ao D b0 b') (ht:∀ d,D.any (Nat.beq d)=true→b0 d=.top):∀ d,aa (b' d) (b0 d):=by
 induction h with
 | refl=>exact fun d=>I
 | @nest D2 env2 b2 h1 h2 h3 ih =>
  intro d
  cases hd:D.any (Nat.beq d) with
  | true=>rw [ht d hd];exact aa.top _
  | false =>
   have hD:D2.any (Nat.beq d)=false:=by
    cases h4:D2.any (Nat.beq d) with
    | false=>rfl
    | true =>
     obtain ⟨e,he,hb⟩:=aIx.1 h4
     have h5:=Y8.1 h2 e he
     rw [← Zm hb,hd] at h5
     exact absurd h5 Bool.noConfusion
   have e:uA D2 env2 b2 d=b2 d:=by
    simp only [uA]
    rw [hD]
    exact qb b2 d h3 hd
   rw [e]
   exact ih d
theorem Fy {α:Type} (D:List Nat) (M:α→List (Nat×CV)) (Hp:α→List (Option Nat×bi)) (φ:α→Prop) (μ:α→Nat) (p0:α) (h0:φ p0) (hM:∀ p,((M p).all fun x=>D.any (Nat.beq x.1))=true) (he:bz s.env s.b (M p0)) (hH:aP s.H (Hp p0))
  (hr:∀ p,φ p→bj P G c ⟨M p,uA D s.env s.b,Hp p⟩ (rM (fun s'=>∃ p',φ p'∧μ p'<μ p∧Ao D (uA D s.env s.b) s'.b∧(s'.env.all fun x=>D.any (Nat.beq x.1))=true∧bz s'.env s'.b (M p')∧(Hp p').length≤s'.H.length∧aP (s'.H.take (Hp p').length) (Hp p')) R)):bj P G (.loop c) s R:=by
 have top0:∀ d,D.any (Nat.beq d)=true→uA D s.env s.b d=.top:=fun d hd=>by simp only [uA];rw [hd]
 have top:∀ (l:List (Nat×CV)),(l.all fun x=>D.any (Nat.beq x.1))=true→∀ d v,(d,v) ∈ l→uA D s.env s.b d=.top:=fun l hl d v hv=>by
  have:=Y8.1 hl _ hv
  simp only [uA]
  simp only at this
  rw [this]
 refine J4 (fun p=>⟨M p,uA D s.env s.b,Hp p⟩) φ μ p0 h0 ?_ (fun p hp=>Ac (hr p hp) (fun e s' h=>?_))
 ·have he':∀ d,aa (look s.env s.b d) (look (M p0) (uA D s.env s.b) d):=bz.look he fun d _=>by
   simp only [uA]
   split
   ·exact aa.top _
   ·exact I
  have h1:=R5 (G:=G) (H:=s.H) (H':=s.H) he' (List.range s.H.length) (iO _) (by rw [iQ _ _ (YG _),Za])
  exact h1.trans (Oy hH)
 ·cases e with
  | normal =>
   obtain ⟨p',h1,h2,h3,h4,h5,h6,h7⟩:=h
   refine ⟨p',h1,h2,?_⟩
   have he':∀ d,aa (look s'.env s'.b d) (look (M p') (uA D s.env s.b) d):=bz.look h5 fun d hd=>by
    have key:∀ l:List (Nat×CV),(l.all fun x=>D.any (Nat.beq x.1))=true→aa (look l s'.b d) (uA D s.env s.b d):=by
     intro l hl
     induction l with
     | nil=>exact h3.ent top0 d
     | cons x r ih =>
      obtain ⟨q,v⟩:=x
      by_cases hq:q=d
      ·rw [top _ hl d v (by rw [hq];exact Y2 ..)];exact aa.top _
      ·rw [dy _ _ _ hq]
       exact ih (by simp only [Z6,YK] at hl;exact hl.2)
    exact key _ h4
   have h8:=R5 (G:=G) (H:=s'.H) (H':=s'.H.take (Hp p').length) he' (List.range (Hp p').length) (iO _) (by rw [iQ _ _ h6])
   exact h8.trans (Oy h7)
  | _=>exact h

theorem Ao.out {D:List Nat} {b0 b':Nat→CV} (h:Ao D b0 b'):∀ d,D.any (Nat.beq d)=false→b' d=b0 d:=by
 induction h with
 | refl=>exact fun d _=>rfl
 | @nest D2 env2 b2 h1 h2 h3 ih =>
  intro d hd
  have hD:D2.any (Nat.beq d)=false:=by
   cases h4:D2.any (Nat.beq d) with
   | false=>rfl
   | true =>
    obtain ⟨e,he,hb⟩:=aIx.1 h4
    have h5:=Y8.1 h2 e he
    rw [← Zm hb,hd] at h5
    exact absurd h5 Bool.noConfusion
  have e:uA D2 env2 b2 d=b2 d:=by
   simp only [uA]
   rw [hD]
   exact qb b2 d h3 hd
  rw [e]
  exact ih d hd
theorem dW {α:Type} {d:Code} (D:List Nat) (M:α→List (Nat×CV)) (Hp:α→List (Option Nat×bi)) (φ:α→Prop) (hM:∀ p,((M p).all fun x=>D.any (Nat.beq x.1))=true)
  (h1:bj P G c ⟨[],look s.env s.b,s.H⟩ (rM (fun s'=>∃ p,φ p∧Ao D (look s.env s.b) s'.b∧(s'.env.all fun x=>D.any (Nat.beq x.1))=true∧bz s'.env s'.b (M p)∧(Hp p).length≤s'.H.length∧aP (s'.H.take (Hp p).length) (Hp p)) R))
  (h2:∀ p,φ p→bj P G d ⟨M p,uA D s.env s.b,Hp p⟩ R):bj P G (.seq c d) s R:=by
 have h0:dh G s ⟨[],look s.env s.b,s.H⟩:=by
  have:=R5 (G:=G) (env:=s.env) (b:=s.b) (env':=[]) (b':=look s.env s.b) (H:=s.H) (H':=s.H) (fun d=>I) (List.range s.H.length) (iO _) (by rw [iQ _ _ (YG _),Za])
  exact this
 refine jE h0 (xx (Ac h1 fun e s' h=>?_))
 cases e with
 | normal =>
  obtain ⟨p,h3,h4,h5,h6,h7,h8⟩:=h
  refine jE ?_ (h2 p h3)
  have he':∀ d,aa (look s'.env s'.b d) (look (M p) (uA D s.env s.b) d):=bz.look h6 fun d hd=>by
   cases hD:D.any (Nat.beq d) with
   | true=>simp only [uA];rw [hD];exact aa.top _
   | false =>
    have e1:look s'.env s'.b d=s'.b d:=qb s'.b d h5 hD
    have e2:uA D s.env s.b d=look s.env s.b d:=by simp only [uA];rw [hD]
    rw [e1,e2,h4.out d hD]
    exact I
  have h9:=R5 (G:=G) (H:=s'.H) (H':=s'.H.take (Hp p).length) he' (List.range (Hp p).length) (iO _) (by rw [iQ _ _ h7])
  exact h9.trans (Oy h8)
 | _=>exact h

structure uR (gs:List Nat) (al:List Addr) (St F0:Nat→Prop) (H:List (Option Nat×bi)) (w:World):Prop where
 s3:∀ b,St b→b<w.heap.size
 sn:gc w gs al
 sg:(∀ g ∈ pn gs,St g)∧∀ a ∈ al,St a.block
 hp:∃ fp,Ef al St w w.heap.size F0 H fp
 f0:∀ b,F0 b→¬ St b

def AC (gs:List Nat) (P:Program) (f:FuncId) (H:List (Option Nat×bi)) (args:List CV) (Q:CV→List (Option Nat×bi)→Prop):Prop :=
 ∀ al w St F0 (vals:Array Value),uR gs al St F0 H w→vals.size=args.length→(∀ i,ba al St w (fl args i) (vals.getD i undef)) →
  Calls P f vals w fun e w'=>∃ v r H' St',e=.returned v∧Q r H'∧ba al St' w' r v∧jr F0 w w'∧(∀ b,St b→St' b)∧(∀ b,St' b→St b∨w.heap.size≤b∨F0 b)∧(∀ b,St' b→b<w'.heap.size)∧dr al St' w' w.heap.size F0 H'

theorem AC.mono {gs:List Nat} {f:FuncId} {H:List (Option Nat×bi)} {args:List CV} {Q Q':CV→List (Option Nat×bi)→Prop} (h:AC gs P f H args Q) (hQ:∀ r H',Q r H'→Q' r H'):AC gs P f H args Q' :=
 fun al w St F0 vals he hs hv=>(h al w St F0 vals he hs hv).mono fun _ _ ⟨v,r,H',St',h1,h2,h3⟩=>⟨v,r,H',St',h1,hQ _ _ h2,h3⟩

def lX (P:Program) (G:Gh) (fn:Func) (s:AS) (r:CV):Prop:=∀ St a w,az G St s a w→∃ v,(results fn a.tmps).run P w=.ok v w∧ba G.al St w r v

def mz (P:Program) (G:Gh) (fn:Func) (Q:CV→List (Option Nat×bi)→Prop):Exit→AS→Prop
 | .normal,s|.ret,s=>∃ r H',lX P G fn s r∧Q r H'∧∀ St a w,az G St s a w→dr G.al St w G.w0.heap.size G.F0 H'
 | _,_=>False

def xq:Nat→List CV→List (Nat×CV)
 | _,[]=>[]
 | i,x::r=>(i,x)::xq (i+1) r
theorem Jg (b:Nat→CV) (hb:∀ d,b d=.top) (l:List CV):∀ (i d:Nat),look (xq i l) b d=if d<i then .top else fl l (d-i):=by
 induction l with
 | nil=>intro i d;simp [xq,look,fl,hb]
 | cons x r ih =>
  intro i d
  by_cases h:i=d
  ·subst h;rw [xq,fu];simp [fl]
  ·rw [xq,dy _ _ _ h,ih]
   by_cases h2:d<i
   ·rw [jP,YF h2]
   ·rw [jK,YE h2]
    obtain ⟨m,hm⟩:∃ m,d-i=m+1:=⟨d-i-1,by omega⟩
    rw [hm,show d-(i+1)=m by omega,fl]

theorem qj:∀ (l:List CV) (i:Nat),l.length≤i→fl l i=.top
 | [],_,_=>by simp [fl]
 | _::r,0,h=>by simp at h
 | _::r,i+1,h=>by rw [fl];exact qj r i (by simpa using h)

theorem zD {fn:Func} {R:Ending→World→Prop}:∀ (Ds:List Nat) (tmps:Array Value) (w:World) (St:Nat→Prop),az G St s { tmps:=tmps,defers:=Ds.map oz } w →
  (∀ w',az G St s { tmps:=tmps,defers:=[] } w'→∃ v,(results fn tmps).run P w'=.ok v w'∧R (.returned v) w')→LeavesInM Fence.wide 0 P fn tmps R (Ds.map oz) .returning w
 | [],tmps,w,St,hr,h=>h w hr
 | D::Ds,tmps,w,St,hr,h=>by
  obtain ⟨h1,h2⟩:=az.take hr
  exact ⟨fun e=>(by cases e),.inl ⟨D,_,rfl,run_takeDeferred h1,zD Ds tmps _ St h2 h⟩⟩
theorem FP {gs:List Nat} {f:FuncId} {fn:Func} {H:List (Option Nat×bi)} {args:List CV} {Q:CV→List (Option Nat×bi)→Prop} (yl:Bool) (n:Nat) (hf:P.funcs[f]?=some fn) (hb:fn.body=some c) (hn:fn.ntmps=n) (hle:Nat.ble args.length n=true)
  (h:∀ (al:List Addr) (w0:World) (F0 St0:Nat→Prop),bj P ⟨gs,al,w0,F0,St0,n,none,yl⟩ c ⟨xq 0 args,fun _=>.top,H⟩ (mz P ⟨gs,al,w0,F0,St0,n,none,yl⟩ fn Q)):AC gs P f H args Q:=by
 intro al w St F0 vals he hs hv
 have hle:args.length≤n:=YU hle
 refine callsIn_wide.1 (callsIn_of_wp_marks (F:=Fence.wide) (n:=0) hf hb trivial (h al w F0 St { tmps:=vals++Array.replicate (fn.ntmps-vals.size) undef,defers:=[] } w ⟨St,pD.none _ _ _,?_,?_,jr.refl _ _,fun _ h=>h,fun _ h=>.inl h,he.s3,he.hp,he.sn,he.sg⟩ _ ?_))
 ·simp [hn,hs];omega
 ·intro d
  show ba al St w (look (xq 0 args) (fun _=>.top) d) _
  rw [Jg _ (fun _=>rfl),jK,ZP]
  have:=hv d
  by_cases hd:d<args.length
  ·have e:(vals++Array.replicate (fn.ntmps-vals.size) undef).getD d undef=vals.getD d undef:=by
    simp [hs,hd,ZI]
   rw [e]
   exact this
  ·rw [qj args d O]
   trivial
 ·intro e s' a' w' h1 h2
  obtain ⟨St',hr⟩:=h2
  have key:∀ {r H'},lX P ⟨gs,al,w,F0,St,n,none,yl⟩ fn s' r→Q r H'→(∀ Sx a w',az ⟨gs,al,w,F0,St,n,none,yl⟩ Sx s' a w'→dr al Sx w' w.heap.size F0 H')→LeavesInM Fence.wide 0 P fn a'.tmps (fun e w'=>∃ v_1 r H' St',e=Ending.returned v_1∧Q r H'∧ba al St' w' r v_1∧jr F0 w w'∧(∀ b,St b→St' b)∧(∀ b,St' b→St b∨w.heap.size≤b∨F0 b)∧(∀ b,St' b→b<w'.heap.size)∧dr al St' w' w.heap.size F0 H') a'.defers .returning w':=by
   intro r H' hres hq hh
   obtain ⟨Ds,hD,_⟩:=hr.df
   obtain ⟨tmps,ds⟩:=a'
   simp only at hD
   subst hD
   refine zD Ds tmps w' St' hr fun w'' hr'=>?_
   obtain ⟨v,hv,hrep⟩:=hres St' _ w'' hr'
   exact ⟨v,hv,v,r,H',St',rfl,hq,hrep,hr'.un,hr'.s1,hr'.s2,hr'.s3,hh St' _ w'' hr'⟩
  cases e with
  | normal=>obtain ⟨r,H',hres,hq,hh⟩:=h1;exact key hres hq hh
  | ret=>obtain ⟨r,H',hres,hq,hh⟩:=h1;exact key hres hq hh
  | _=>exact h1.elim
theorem W1 {gs:List Nat} {f:FuncId} {fn:Func} {H:List (Option Nat×bi)} {args:List CV} {Q:CV→List (Option Nat×bi)→Prop} (n:Nat) (hf:P.funcs[f]?=some fn) (hb:fn.body=some c) (hn:fn.ntmps=n) (hle:Nat.ble args.length n=true)
  (h:∀ (al:List Addr) (w0:World) (F0 St0:Nat→Prop),bj P ⟨gs,al,w0,F0,St0,n,none,false⟩ c ⟨xq 0 args,fun _=>.top,H⟩ (mz P ⟨gs,al,w0,F0,St0,n,none,false⟩ fn Q)):AC gs P f H args Q:=FP false n hf hb hn hle h

theorem aj {gs:List Nat} {f:FuncId} {fn:Func} {H:List (Option Nat×bi)} {args:List CV} {Q:CV→List (Option Nat×bi)→Prop} (n:Nat) (hf:P.funcs[f]?=some fn)
  (h:∀ (al:List Addr) (w0:World) (F0 St0:Nat→Prop),bj P ⟨gs,al,w0,F0,St0,n,none,false⟩ c ⟨xq 0 args,fun _=>.top,H⟩ (mz P ⟨gs,al,w0,F0,St0,n,none,false⟩ fn Q)) (hb:fn.body=some c:=by exact rfl) (hn:fn.ntmps=n:=by exact rfl) (hle:Nat.ble args.length n=true:=by exact rfl):AC gs P f H args Q:=W1 n hf hb hn hle h

theorem Oz {fn:Func} {Q:CV→List (Option Nat×bi)→Prop} {e:Exit} (he:e=.ret∨e=.normal) (v:CV) (hres:lX P G fn s v) (hq:Q v []):mz P G fn Q e s:=by
 have h:∃ r H',lX P G fn s r∧Q r H'∧∀ St a w,az G St s a w→dr G.al St w G.w0.heap.size G.F0 H':=⟨v,[],hres,hq,fun _ _ _ _=>dr.none _ _ _ _ _⟩
 rcases he with rfl|rfl <;> exact h
theorem bV {fn:Func} {Q:CV→List (Option Nat×bi)→Prop} {e:Exit} (he:e=.ret∨e=.normal) (v:CV) (H':List (Option Nat×bi)) (l:List Nat) (hl:l.Nodup) (hH:im s.H l=H') (hres:lX P G fn s v) (hq:Q v H'):mz P G fn Q e s:=by
 have h:∃ r H',lX P G fn s r∧Q r H'∧∀ St a w,az G St s a w→dr G.al St w G.w0.heap.size G.F0 H':=⟨v,H',hres,hq,fun _ _ _ hr=>hr.hp.pick l hl hH⟩
 rcases he with rfl|rfl <;> exact h

theorem lX.ent {fn:Func} {v v':CV} (h:lX P G fn s v) (hv:aa v v'):lX P G fn s v':=fun St a w hr=>by
 obtain ⟨x,h1,h2⟩:=h St a w hr
 exact ⟨x,h1,hv _ _ _ _ h2⟩
end
section
variable {P:Program} {G:Gh} {ops:Array Oper} {o:Oper} {s:AS}

theorem kM {St:Nat→Prop} {a:Act} {w:World} (h:az G St s a w) {x:Operand} {v:Value} (hx:s.eval x=.c v):a.eval x=v:=by
 have:=h.eval x
 rw [hx] at this
 exact this
theorem ji {St:Nat→Prop} {a:Act} {w:World} (h:az G St s a w) {x:Operand} {c:CV} (hx:s.eval x=c):ba G.al St w c (a.eval x):=hx ▸ h.eval x
theorem lY {x:Sem Value} {v:Value} {W W':World} (h:x.run P W=.ok v W'):(do pure (Next.value (← x)):Sem Next).run P W=.ok (.value v) W':=by
 simp [h]

theorem QG {x:Operand} {v:CV} (ho:o.op=.move x) (hv:s.eval x=v):ci P G o s v:=fun _ a _ h=>⟨a.eval x,fun W _=>BigFrame.run_move x ho W,ji h hv⟩
theorem IL {x:Operand} {v:CV} (ho:o.op=.assign x) (hv:s.eval x=v):ci P G o s v:=fun _ a _ h=>⟨a.eval x,fun W _=>BigFrame.run_assign x ho W,ji h hv⟩

def jw (op:BinOp) (t:TypeId) (x y:Operand) (p q:Value):Sem Value:=do eqGuard op t x y p q;binOp op t p q
theorem dH {op:BinOp} {t u:TypeId} {x y:Operand} {p q v:Value} (ho:o.op=.binOp op t x y u) (hx:s.eval x=.c p) (hy:s.eval y=.c q)
  (hr:∀ W,(jw op t x y p q).run P W=.ok v W):ci P G o s (.c v):=fun _ a _ h =>
 ⟨v,fun W _=>by simp only [execOp,ho,kM h hx,kM h hy];exact lY (hr W),rfl⟩

variable {t u:TypeId} {x y:Operand} {k:IntKind} {a b:Int}
theorem Ug (ho:o.op=.binOp .add t x y u) (hx:s.eval x=.c (.int k a)) (hy:s.eval y=.c (.int k b)) (hr:k.wrap (a+b)=a+b):ci P G o s (.c (.int k (a+b))) :=
 dH ho hx hy fun W=>by simp [jw,eqGuard,binOp,Op.intArith,hr]
theorem TV (ho:o.op=.binOp .sub t x y u) (hx:s.eval x=.c (.int k a)) (hy:s.eval y=.c (.int k b)) (hr:k.wrap (a-b)=a-b):ci P G o s (.c (.int k (a-b))) :=
 dH ho hx hy fun W=>by simp [jw,eqGuard,binOp,Op.intArith,hr]
theorem T4 (ho:o.op=.binOp .mul t x y u) (hx:s.eval x=.c (.int k a)) (hy:s.eval y=.c (.int k b)) (hr:k.wrap (a * b)=a * b):ci P G o s (.c (.int k (a * b))) :=
 dH ho hx hy fun W=>by simp [jw,eqGuard,binOp,Op.intArith,hr]
theorem AY (ho:o.op=.binOp .add t x y u) (hx:s.eval x=.c (.int k a)) (hy:s.eval y=.c (.int k b)) (z:Int) (hr:k.wrap (a+b)=z):ci P G o s (.c (.int k z)) :=
 dH ho hx hy fun W=>by simp [jw,eqGuard,binOp,Op.intArith,hr]
theorem Qx (ho:o.op=.binOp .sub t x y u) (hx:s.eval x=.c (.int k a)) (hy:s.eval y=.c (.int k b)) (z:Int) (hr:k.wrap (a-b)=z):ci P G o s (.c (.int k z)) :=
 dH ho hx hy fun W=>by simp [jw,eqGuard,binOp,Op.intArith,hr]
theorem QF (ho:o.op=.binOp .mul t x y u) (hx:s.eval x=.c (.int k a)) (hy:s.eval y=.c (.int k b)) (z:Int) (hr:k.wrap (a * b)=z):ci P G o s (.c (.int k z)) :=
 dH ho hx hy fun W=>by simp [jw,eqGuard,binOp,Op.intArith,hr]
theorem LQ (ho:o.op=.binOp .quo t x y u) (hx:s.eval x=.c (.int k a)) (hy:s.eval y=.c (.int k b)) (h0:0≤a) (h1:1≤b) (hr:k.wrap (a / b)=a / b):ci P G o s (.c (.int k (a / b))) :=
 dH ho hx hy fun W=>by simp [jw,eqGuard,binOp,Op.intDiv,show ¬ b=0 by omega,Int.tdiv_eq_ediv_of_nonneg h0,hr]
theorem LP (ho:o.op=.binOp .rem t x y u) (hx:s.eval x=.c (.int k a)) (hy:s.eval y=.c (.int k b)) (h0:0≤a) (h1:1≤b):ci P G o s (.c (.int k (a % b))) :=
 dH ho hx hy fun W=>by simp [jw,eqGuard,binOp,Op.intDiv,show ¬ b=0 by omega,Int.tmod_eq_emod_of_nonneg h0]
theorem mI (ho:o.op=.binOp .and t x y u) (hx:s.eval x=.c (.int k a)) (hy:s.eval y=.c (.int k b)) (z:Int) (hr:k.wrap (BitVec.ofInt k.bits a &&& BitVec.ofInt k.bits b).toNat=z):ci P G o s (.c (.int k z)) :=
 dH ho hx hy fun W=>by simp [jw,eqGuard,binOp,Op.intBits,← hr]
theorem wB (ho:o.op=.binOp .or t x y u) (hx:s.eval x=.c (.int k a)) (hy:s.eval y=.c (.int k b)) (z:Int) (hr:k.wrap (BitVec.ofInt k.bits a ||| BitVec.ofInt k.bits b).toNat=z):ci P G o s (.c (.int k z)) :=
 dH ho hx hy fun W=>by simp [jw,eqGuard,binOp,Op.intBits,← hr]
theorem TU (ho:o.op=.binOp .xor t x y u) (hx:s.eval x=.c (.int k a)) (hy:s.eval y=.c (.int k b)) (z:Int) (hr:k.wrap (BitVec.ofInt k.bits a ^^^ BitVec.ofInt k.bits b).toNat=z):ci P G o s (.c (.int k z)) :=
 dH ho hx hy fun W=>by simp [jw,eqGuard,binOp,Op.intBits,← hr]
theorem ic {k':IntKind} (ho:o.op=.binOp .shl t x y u) (hx:s.eval x=.c (.int k a)) (hy:s.eval y=.c (.int k' b)) (h0:0≤b) (z:Int) (hr:k.wrap (a * 2 ^ (min b.toNat k.bits))=z):ci P G o s (.c (.int k z)) :=
 dH ho hx hy fun W=>by simp [jw,eqGuard,binOp,Op.shift,show ¬ b<0 by omega,← hr]
theorem jI {k':IntKind} (ho:o.op=.binOp .shr t x y u) (hx:s.eval x=.c (.int k a)) (hy:s.eval y=.c (.int k' b)) (h0:0≤b) (z:Int) (hr:a.fdiv (2 ^ (min b.toNat k.bits))=z):ci P G o s (.c (.int k z)) :=
 dH ho hx hy fun W=>by simp [jw,eqGuard,binOp,Op.shift,show ¬ b<0 by omega,← hr]

theorem Su {α:Type} [BEq α] [LawfulBEq α] [DecidableEq α] (a b:α):(a == b)=decide (a=b):=by
 by_cases h:a=b
 ·subst h;simp
 ·simp [h]
theorem qn (op:BinOp) (t:TypeId) (x y:Operand) (k k':IntKind) (a b:Int) (W:World):(eqGuard op t x y (.int k a) (.int k' b)).run P W=.ok () W:=by
 unfold eqGuard
 split <;> simp
theorem Ud (ho:o.op=.binOp .eql t x y u) (hx:s.eval x=.c (.int k a)) (hy:s.eval y=.c (.int k b)):ci P G o s (.c (.bool (decide (a=b)))) :=
 dH ho hx hy fun W=>by simp [jw,qn,binOp,Op.intCmp];exact Su ..
theorem T0 (ho:o.op=.binOp .neq t x y u) (hx:s.eval x=.c (.int k a)) (hy:s.eval y=.c (.int k b)):ci P G o s (.c (.bool (decide (a≠b)))) :=
 dH ho hx hy fun W=>by simp [jw,qn,binOp,Op.intCmp,bne,Su]
theorem Wa (ho:o.op=.binOp .lss t x y u) (hx:s.eval x=.c (.int k a)) (hy:s.eval y=.c (.int k b)):ci P G o s (.c (.bool (decide (a<b)))) :=
 dH ho hx hy fun W=>by simp [jw,qn,binOp,Op.intCmp]
theorem Wb (ho:o.op=.binOp .leq t x y u) (hx:s.eval x=.c (.int k a)) (hy:s.eval y=.c (.int k b)):ci P G o s (.c (.bool (decide (a≤b)))) :=
 dH ho hx hy fun W=>by simp [jw,qn,binOp,Op.intCmp]
theorem Wc (ho:o.op=.binOp .gtr t x y u) (hx:s.eval x=.c (.int k a)) (hy:s.eval y=.c (.int k b)):ci P G o s (.c (.bool (decide (b<a)))) :=
 dH ho hx hy fun W=>by simp [jw,qn,binOp,Op.intCmp]
theorem Wd (ho:o.op=.binOp .geq t x y u) (hx:s.eval x=.c (.int k a)) (hy:s.eval y=.c (.int k b)):ci P G o s (.c (.bool (decide (b≤a)))) :=
 dH ho hx hy fun W=>by simp [jw,qn,binOp,Op.intCmp]
theorem ci.int {z z':Int} (h:ci P G o s (.c (.int k z))) (e:z=z'):ci P G o s (.c (.int k z')):=e ▸ h
theorem ci.bool {z z':Bool} (h:ci P G o s (.c (.bool z))) (e:z=z'):ci P G o s (.c (.bool z')):=e ▸ h
theorem ci.ent {v v':CV} (h:ci P G o s v) (e:aa v v'):ci P G o s v':=fun St a w hr=>by
 obtain ⟨x,h1,h2⟩:=h St a w hr
 exact ⟨x,h1,e _ _ _ _ h2⟩

theorem DF (op:BinOp) (t:TypeId) (x y:Operand) (a b:Bool) (W:World):(eqGuard op t x y (.bool a) (.bool b)).run P W=.ok () W:=by
 unfold eqGuard
 split <;> simp
theorem Uf {a b:Bool} (ho:o.op=.binOp .eql t x y u) (hx:s.eval x=.c (.bool a)) (hy:s.eval y=.c (.bool b)) (ht:P.underlying t=some .bool):ci P G o s (.c (.bool (a == b))) :=
 dH ho hx hy fun W=>by unfold jw;simp only [Sem.run_bind,DF,Result.andThen_ok];first|exact run_eql_bool W t a b ht|exact run_neq_bool W t a b ht
theorem T3 {a b:Bool} (ho:o.op=.binOp .neq t x y u) (hx:s.eval x=.c (.bool a)) (hy:s.eval y=.c (.bool b)) (ht:P.underlying t=some .bool):ci P G o s (.c (.bool (!(a == b)))) :=
 dH ho hx hy fun W=>by unfold jw;simp only [Sem.run_bind,DF,Result.andThen_ok];first|exact run_eql_bool W t a b ht|exact run_neq_bool W t a b ht

theorem ql (op:BinOp) (t:TypeId) (x y:Operand) (a b:ByteArray) (W:World):(eqGuard op t x y (.string a) (.string b)).run P W=.ok () W:=by
 unfold eqGuard
 split <;> simp
theorem qX {a b:ByteArray}:(a.toList=b.toList)↔a=b:=by
 constructor
 ·intro h
  rw [Go.ByteArray.toList_eq,Go.ByteArray.toList_eq] at h
  cases a;cases b
  simp at h
  rw [h]
 ·rintro rfl;rfl
theorem Ub {a b:ByteArray} (ho:o.op=.binOp .eql t x y u) (hx:s.eval x=.c (.string a)) (hy:s.eval y=.c (.string b)):ci P G o s (.c (.bool (decide (a=b)))) :=
 dH ho hx hy fun W=>by simp [jw,ql,binOp,Op.stringOp,Su,qX]
theorem TY {a b:ByteArray} (ho:o.op=.binOp .neq t x y u) (hx:s.eval x=.c (.string a)) (hy:s.eval y=.c (.string b)):ci P G o s (.c (.bool (decide (a≠b)))) :=
 dH ho hx hy fun W=>by simp [jw,ql,binOp,Op.stringOp,Su,qX]
theorem T5 {a b:ByteArray} (ho:o.op=.binOp .lss t x y u) (hx:s.eval x=.c (.string a)) (hy:s.eval y=.c (.string b)):ci P G o s (.c (.bool (Op.bytesLess a.toList b.toList))) :=
 dH ho hx hy fun W=>by simp [jw,ql,binOp,Op.stringOp]
theorem T9 {a b:ByteArray} (ho:o.op=.binOp .gtr t x y u) (hx:s.eval x=.c (.string a)) (hy:s.eval y=.c (.string b)):ci P G o s (.c (.bool (!(Op.bytesLess a.toList b.toList || a.toList == b.toList)))) :=
 dH ho hx hy fun W=>by simp [jw,ql,binOp,Op.stringOp]
theorem QQ {a b:ByteArray} (ho:o.op=.binOp .add t x y u) (hx:s.eval x=.c (.string a)) (hy:s.eval y=.c (.string b)) (hl:a.size+b.size≤9223372036854775807):ci P G o s (.c (.string (a++b))) :=
 dH ho hx hy fun W=>by
  have:¬ ((a.size+b.size:Nat):Int)>IntKind.i64.max:=by simp [IntKind.max,IntKind.bits,IntKind.signed];omega
  unfold jw
  simp only [Sem.run_bind,ql,Result.andThen_ok,binOp,Op.stringOp,YE this]
  rfl

theorem Ue {n:Nat} (ho:o.op=.binOp .eql 37 x (.const .nilIface) u) (hx:s.eval x=.err n):ci Tryz.prog G o s (.c (.bool (decide (n=0)))):=fun St a w h =>
 ⟨_,fun W _=>by
  have e:a.eval x=ev G.al n:=ji h hx
  simp only [execOp,ho,e]
  refine lY ?_
  show (do eqGuard .eql _ _ _ (ev G.al n) .nilIface;binOp .eql _ (ev G.al n) .nilIface:Sem Value).run _ W=_
  rw [jj]
  exact o7 G.al n W,rfl⟩
theorem T1 {n:Nat} (ho:o.op=.binOp .neq 37 x (.const .nilIface) u) (hx:s.eval x=.err n):ci Tryz.prog G o s (.c (.bool (decide (n≠0)))):=fun St a w h =>
 ⟨_,fun W _=>by
  have e:a.eval x=ev G.al n:=ji h hx
  simp only [execOp,ho,e]
  refine lY ?_
  show (do eqGuard .neq _ _ _ (ev G.al n) .nilIface;binOp .neq _ (ev G.al n) .nilIface:Sem Value).run _ W=_
  rw [jj]
  have:=o5 G.al n W
  rw [← decide_not] at this
  exact this,rfl⟩


theorem TX {p:Bool} (ho:o.op=.unOp .not t x) (hx:s.eval x=.c (.bool p)):ci P G o s (.c (.bool (!p))):=fun _ _ _ h =>
 ⟨_,fun W _=>by simp only [execOp,ho,kM h hx];exact lY (by simp [Op.unary]),rfl⟩
theorem LT (ho:o.op=.unOp .neg t x) (hx:s.eval x=.c (.int k a)) (z:Int) (hr:k.wrap (0-a)=z):ci P G o s (.c (.int k z)):=fun _ _ _ h =>
 ⟨_,fun W _=>by simp only [execOp,ho,kM h hx];exact lY (v:=.int k z) (by rw [← hr];simp [Op.unary,Op.intArith]),rfl⟩

theorem cG {k':IntKind} {d:TypeDesc} (ho:o.op=.convert t u x) (hx:s.eval x=.c (.int k a)) (h1:P.underlying t=some d) (h2:P.underlying u=some (.int k')) (z:Int) (hr:k'.wrap a=z):ci P G o s (.c (.int k' z)):=fun _ _ _ h =>
 ⟨_,fun W _=>by simp only [execOp,ho,kM h hx];exact lY (v:=.int k' z) (by rw [← hr];simp [convert,underlying,h1,h2,Conv.intToInt]),rfl⟩

def bc (l:Z) (i:Nat):CV:=.c (.int .u8 ((l.getD i 0).toNat:Nat))
def aV (l:Z):CV:=.rs 1 l.length fun i _=>bc l i

theorem qw {al:List Addr} {St:Nat→Prop} {w:World} {l:Z} {v:Value} (h:ba al St w (aV l) v):Bs w v l:=by
 obtain ⟨ao,cap,h1,h2,h3,h4,h5⟩:=h
 refine ⟨ao,cap,h1,h2,h3,h4,fun x hx=>⟨fun h=>(h5 x hx h).1,fun i hi=>?_⟩⟩
 obtain ⟨h6,h7,h8⟩:=h5 x hx O
 obtain ⟨v,hv,hr⟩:=h8 i 0 hi O
 rw [Ze,Zt] at hv
 rw [hv]
 exact Y3 some hr

theorem pe {al:List Addr} {St:Nat→Prop} {w W:World} {l:Z} {v:Value} (h:ba al St w (aV l) v) (hW:eX St w W):ba al St W (aV l) v:=by
 obtain ⟨ao,cap,h1,h2,h3,h4,h5⟩:=h
 refine ⟨ao,cap,h1,h2,h3,h4,fun a ha hn=>?_⟩
 obtain ⟨h6,h7,h8⟩:=h5 a ha hn
 refine ⟨h6,h7,fun i j hi hj=>?_⟩
 obtain ⟨v,hv,hr⟩:=h8 i j hi hj
 exact ⟨v,(db (hW _ h7) _).trans hv,hr⟩
theorem IG {e:TypeId} {l:Z} (ho:o.op=.convert t u x) (hx:s.eval x=aV l) (h1:P.underlying t=some (.slice e)) (h2:P.underlying e=some (.int .u8)) (h3:P.underlying u=some .string):ci P G o s (.c (.string ⟨l.toArray⟩)):=fun St a w h=>by
 have hr:=ji h hx
 refine ⟨_,fun W hW=>?_,rfl⟩
 have hb:=qw (pe hr hW)
 obtain ⟨ao,cap,e0,_⟩:=id hb
 simp only [execOp,ho,e0]
 rw [e0] at hb
 exact lY (ik hb _ _ _ h1 h2 h3)

theorem EJ {n i:Nat} {f:Nat→CV} {v:CV} (ho:o.op=.extract x i) (hx:s.eval x=.tup n f) (hi:Nat.blt i n=true) (hv:f i=v):ci P G o s v:=fun St a w h=>by
 obtain ⟨cs,e,hn,hf⟩:=ji h hx
 have hlt:i<n:=YU hi
 refine ⟨cs.getD i undef,fun W _=>?_,hv ▸ hf i hlt⟩
 simp only [execOp,ho,e]
 refine lY ?_
 have:i<cs.size:=by omega
 simp [Instr.extract,this]

def iw (P:Program) (t:TypeId):Bool:=match P.underlying t with|some (.struct _)|some (.array _ _)=>true|_=>false
theorem lh {d:TypeDesc} (h:P.underlying t=some d) (W:World):(isAgg t).run P W=.ok (iw P t) W:=by
 unfold isAgg iw
 simp only [Sem.run_bind,underlying,run_program,Result.andThen_ok,h]
 cases d <;> simp

theorem LY {fs:Array Field} {fd:Field} {d:TypeDesc} {n i:Nat} {f:Nat→CV} {v:CV} (ho:o.op=.field t x i) (hx:s.eval x=.agg n f) (h1:P.underlying t=some (.struct fs)) (h2:fs[i]?=some fd)
  (h3:P.underlying fd.type=some d) (h4:iw P fd.type=false) (hi:Nat.blt fd.offset n=true) (hv:f fd.offset=v):ci P G o s v:=fun St a w h=>by
 obtain ⟨cs,e,hn,hf⟩:=ji h hx
 have hlt:fd.offset<n:=YU hi
 refine ⟨cs.getD fd.offset undef,fun W _=>?_,hv ▸ hf _ hlt⟩
 simp only [execOp,ho,e]
 refine lY ?_
 have:fd.offset<cs.size:=by omega
 simp [Instr.field,underlying,h1,h2,asAgg,part,lh h3,h4,this]
theorem o6 {fd:Field} {info:TypeInfo} {b q:Nat} (h5:P.info? fd.type=some info) (h6:info.size≠0) (W:World):(fieldPlace ⟨b,q,none⟩ fd).run P W=.ok ⟨b,q+fd.offset,none⟩ W:=by
 simp [fieldPlace,sizeOf,typeInfo,h5,h6,Addr.add_lit]
theorem IE {fs:Array Field} {fd:Field} {n i m:Nat} {f:Nat→CV} (ho:o.op=.fieldAddr t x i) (hx:s.eval x=.rp n f) (h1:P.underlying t=some (.struct fs)) (h2:fs[i]?=some fd)
  (h5:(P.info? fd.type).map (·.size)=some m) (h6:Nat.blt 0 m=true):ci P G o s (.rp (n-fd.offset) fun j=>f (fd.offset+j)):=fun St a w h=>by
 obtain ⟨info,h5i,h7⟩:=YM.1 h5
 subst h7
 clear h5
 obtain ⟨b,q,e,hb,hf⟩:=ji h hx
 refine ⟨.pointer (some ⟨b,q+fd.offset,none⟩),fun W _=>?_,b,q+fd.offset,rfl,hb,fun j hj=>?_⟩
 ·simp only [execOp,ho,e]
  refine lY ?_
  simp [Instr.fieldAt,underlying,h1,h2,Instr.sureAddr,o6 h5i (show info.size≠0 by have:=YU h6;omega)]
 ·rw [bhx];exact hf _ O
theorem IF {fs:Array Field} {fd:Field} {i j off m:Nat} {g:Option Nat} (ho:o.op=.fieldAddr t x i) (hx:s.eval x=.op j g off) (h1:P.underlying t=some (.struct fs)) (h2:fs[i]?=some fd)
  (h5:(P.info? fd.type).map (·.size)=some m) (h6:Nat.blt 0 m=true):ci P G o s (.op j g (off+fd.offset)):=fun St a w h=>by
 obtain ⟨info,h5i,h7⟩:=YM.1 h5
 subst h7
 clear h5
 obtain ⟨b,rfl,e⟩:=ji h hx
 refine ⟨.pointer (some ⟨b,off+fd.offset,none⟩),fun W _=>?_,b,rfl,rfl⟩
 simp only [execOp,ho,e]
 refine lY ?_
 simp [Instr.fieldAt,underlying,h1,h2,Instr.sureAddr,o6 h5i (show info.size≠0 by have:=YU h6;omega)]

theorem f9 (b q m:Nat):Addr.add ⟨b,q,none⟩ m=⟨b,q+m,none⟩:=Addr.add_lit b q m
theorem IC {e:TypeId} {n m i:Nat} {f:Nat→Nat→CV} {z:Int} (ho:o.op=.indexAddr t x y) (hx:s.eval x=.rs m n f) (hy:s.eval y=.c (.int k z)) (h1:P.underlying t=some (.slice e))
  (h5:(P.info? e).map (·.size)=some m) (hz:z=(i:Int)) (hi:i<n) (hm:0<m):ci P G o s (.rp m (f i)):=fun St a w h=>by
 obtain ⟨info,h5i,h6⟩:=YM.1 h5
 obtain ⟨ao,cap,e0,h2,h3,h4,h7⟩:=ji h hx
 have ey:a.eval y=.int k z:=kM h hy
 cases ao with
 | none=>have:=h4 rfl;omega
 | some ad =>
  obtain ⟨b,q,sp⟩:=ad
  obtain ⟨h8,h9,h10⟩:=h7 _ rfl O
  simp only at h8 h9
  subst h8
  refine ⟨.pointer (some ⟨b,q+i * m,none⟩),fun W _=>?_,b,q+i * m,rfl,h9,fun j hj=>?_⟩
  ·simp only [execOp,ho,e0,ey]
   refine lY ?_
   subst hz
   simp [Instr.indexAt,asIntOf,underlying,h1,sizeOf,typeInfo,h5i,h6,hi,f9]
  ·obtain ⟨v,hv,hr⟩:=h10 i j hi hj
   exact ⟨v,by rw [bhx];exact hv,hr⟩
theorem gh {e:TypeId} {j off n m i:Nat} {g:Option Nat} {z:Int} (ho:o.op=.indexAddr t x y) (hx:s.eval x=.os j g off n m) (hy:s.eval y=.c (.int k z)) (h1:P.underlying t=some (.slice e))
  (h5:(P.info? e).map (·.size)=some m) (hz:z=(i:Int)) (hi:i<n):ci P G o s (.op j g (off+i * m)):=fun St a w h=>by
 obtain ⟨info,h5i,h6⟩:=YM.1 h5
 obtain ⟨b,rfl,cap,e0⟩:∃ b,g=some b∧∃ cap,a.eval x=.slice (some ⟨b,off,none⟩) n cap:=by
  have he:=ji h hx
  cases g with
  | none=>have:=he.1;omega
  | some b=>obtain ⟨cap,e0,_⟩:=he;exact ⟨b,rfl,cap,e0⟩
 have ey:a.eval y=.int k z:=kM h hy
 refine ⟨.pointer (some ⟨b,off+i * m,none⟩),fun W _=>?_,b,rfl,rfl⟩
 simp only [execOp,ho,e0,ey]
 refine lY ?_
 subst hz
 simp [Instr.indexAt,asIntOf,underlying,h1,sizeOf,typeInfo,h5i,h6,hi,f9]
theorem ID {e:TypeId} {j off n m i:Nat} {g:Option Nat} {z:Int} (ho:o.op=.indexAddr t x y) (hx:s.eval x=.op j g off) (hy:s.eval y=.c (.int k z)) (h1:P.underlying t=some (.array n e))
  (h5:(P.info? e).map (·.size)=some m) (hz:z=(i:Int)) (hi:i<n):ci P G o s (.op j g (off+i * m)):=fun St a w h=>by
 obtain ⟨info,h5i,h6⟩:=YM.1 h5
 obtain ⟨b,rfl,e0⟩:=ji h hx
 have ey:a.eval y=.int k z:=kM h hy
 refine ⟨.pointer (some ⟨b,off+i * m,none⟩),fun W _=>?_,b,rfl,rfl⟩
 simp only [execOp,ho,e0,ey]
 refine lY ?_
 subst hz
 simp [Instr.indexAt,asIntOf,underlying,h1,sizeOf,typeInfo,h5i,h6,hi,f9,Instr.sureAddr]
theorem lq {l:ByteArray} {i:Nat} {z:Int} (ho:o.op=.index t x y) (hx:s.eval x=.c (.string l)) (hy:s.eval y=.c (.int k z)) (h1:P.underlying t=some .string) (hz:z=(i:Int)) (hi:i<l.size):ci P G o s (bc l.data.toList i):=fun St a w h=>by
 refine ⟨.int .u8 ((l.data.toList.getD i 0).toNat:Nat),fun W _=>?_,rfl⟩
 simp only [execOp,ho,kM h hx,kM h hy]
 refine lY ?_
 subst hz
 have hi':i<l.data.size:=hi
 have e:l[i]?=some l.data[i]:=by
  rw [getElem?_pos l i hi];rfl
 simp [Instr.index,asIntOf,underlying,h1,e,List.getD]
 rw [YV hi']
 rfl

theorem kY {d:TypeDesc} (h:P.underlying t=some d) (ha:iw P t=false) {w:World} {p:Addr} {v:Value} (hc:w.cell? p=some v):(loadVar t p).run P w=.ok v w:=by
 simp [loadVar,lh h,ha,hc]
theorem kX {d:TypeDesc} {info:TypeInfo} (h:P.underlying t=some d) (ha:iw P t=true) (h5:P.info? t=some info) {w:World} {b q:Nat} {g:Nat→Value} (hc:∀ j,j<info.size→w.cell? ⟨b,q+j,none⟩=some (g j)) :
  (loadVar t ⟨b,q,none⟩).run P w=.ok (.agg ((List.range info.size).map g).toArray) w:=by
 have:=run_loadCells (P:=P) (w:=w) ⟨b,q,none⟩ info.size g (fun j hj=>by rw [f9];exact hc j hj)
 simp [loadVar,lh h,ha,sizeOf,typeInfo,h5,this]

theorem lx (ho:o.op=.load t x) {a:Act} {W:World} {p:Addr} {v:Value} (hp:a.eval x=.pointer (some p)) (hl:(loadVar t p).run P W=.ok v W):(execOp a.eval o).run P W=.ok (.value v) W:=by
 simp only [execOp,ho,hp]
 exact lY (by simp [Instr.loadAt,Instr.sureAddr,hl])

theorem LV {d:TypeDesc} {n:Nat} {f:Nat→CV} {v:CV} (ho:o.op=.load t x) (hx:s.eval x=.rp n f) (h1:P.underlying t=some d) (ha:iw P t=false) (hn:0<n) (hv:f 0=v):ci P G o s v:=fun St a w h=>by
 obtain ⟨b,q,e,hb,hf⟩:=ji h hx
 obtain ⟨u,hu,hr⟩:=hf 0 hn
 refine ⟨u,fun W hW=>lx ho e (kY h1 ha ?_),hv ▸ hr⟩
 exact (db (hW b hb) q).trans hu
theorem oh {p:Nat→Value→Prop} {n:Nat} (h:∀ j,j<n→∃ v,p j v):∃ g:Nat→Value,∀ j,j<n→p j (g j):=by
 classical
 exact ⟨fun j=>if hj:j<n then (h j hj).choose else undef,fun j hj=>by simp only [dif_pos hj];exact (h j hj).choose_spec⟩
theorem Ix {d:TypeDesc} {n m:Nat} {f:Nat→CV} (ho:o.op=.load t x) (hx:s.eval x=.rp n f) (h1:P.underlying t=some d) (ha:iw P t=true) (h5:(P.info? t).map (·.size)=some m) (hn:m≤n):ci P G o s (.agg m f):=fun St a w h=>by
 obtain ⟨info,h5i,h6⟩:=YM.1 h5
 obtain ⟨b,q,e,hb,hf⟩:=ji h hx
 obtain ⟨g,hg⟩:=oh (fun j (hj:j<n)=>hf j hj)
 subst h6
 refine ⟨_,fun W hW=>lx ho e (kX h1 ha h5i (g:=g) fun j hj=>?_),_,rfl,by simp,fun i hi=>?_⟩
 ·exact (db (hW b hb) _).trans (hg j O).1
 ·simp [hi];exact (hg i O).2

theorem xE {St:Nat→Prop} {a:Act} {w:World} (h:az G St s a w) {i g n:Nat} {f:Nat→CV} (hH:s.H[i]?=some (some g,.blk n f)) :
  g<w.heap.size∧∃ cur t z,w.heap[g]?=some (.cells cur t z)∧n≤cur.size∧∀ j,j<n→ba G.al St w (f j) (cur.getD j undef):=by
 obtain ⟨fp,hp⟩:=h.hp
 obtain ⟨h0,cur,t,h1,h2,h4⟩:=hp.rep i (some g) _ hH
 exact ⟨(hp.own i g ((h0 g).2 rfl)).1,cur,t,_,h1,h2,h4⟩
theorem N9 {St:Nat→Prop} {a:Act} {w:World} (h:az G St s a w) {i g n:Nat} {f:Nat→CV} (hH:s.H[i]?=some (some g,.frz n f)) :
  g<w.heap.size∧∃ cur t z,w.heap[g]?=some (.cells cur t z)∧n≤cur.size∧∀ j,j<n→ba G.al St w (f j) (cur.getD j undef):=by
 obtain ⟨fp,hp⟩:=h.hp
 obtain ⟨h0,hg,h1⟩:=hp.rep i (some g) _ hH
 exact ⟨h.s3 g hg,h1⟩
def Holds (s:AS) (i:Nat) (g:Option Nat) (n:Nat) (f:Nat→CV):Prop:=s.H[i]?=some (g,.blk n f)∨s.H[i]?=some (g,.frz n f)
theorem jJ {St:Nat→Prop} {a:Act} {w:World} (h:az G St s a w) {i g n:Nat} {f:Nat→CV} (hH:Holds s i (some g) n f) :
  g<w.heap.size∧∃ cur t z,w.heap[g]?=some (.cells cur t z)∧n≤cur.size∧∀ j,j<n→ba G.al St w (f j) (cur.getD j undef):=by
 rcases hH with hH|hH
 ·exact xE h hH
 ·exact N9 h hH
theorem LW {d:TypeDesc} {i off n:Nat} {g:Option Nat} {f:Nat→CV} {v:CV} (ho:o.op=.load t x) (hx:s.eval x=.op i g off) (hH:Holds s i g n f) (h1:P.underlying t=some d) (ha:iw P t=false) (hn:off<n) (hv:f off=v):kF P G o s v:=fun St a w h=>by
 obtain ⟨b,rfl,e⟩:=ji h hx
 obtain ⟨hg,cur,ty,z,hh,hle,hc⟩:=jJ h hH
 have hlt:off<cur.size:=by omega
 have hcell:w.cell? ⟨b,off,none⟩=some (cur.getD off undef):=by
  rw [cell_of_row w b off cur ty z hh];simp [hlt]
 refine ⟨_,fun W hW=>lx ho e (kY h1 ha ?_),hv ▸ hc off hn⟩
 exact (db (hW.block b hg) off).trans hcell
theorem Iy {d:TypeDesc} {i off n m:Nat} {g:Option Nat} {f:Nat→CV} (ho:o.op=.load t x) (hx:s.eval x=.op i g off) (hH:Holds s i g n f) (h1:P.underlying t=some d) (ha:iw P t=true) (h5:(P.info? t).map (·.size)=some m) (hn:off+m≤n):kF P G o s (.agg m fun j=>f (off+j)):=fun St a w h=>by
 obtain ⟨info,h5i,h6⟩:=YM.1 h5
 obtain ⟨b,rfl,e⟩:=ji h hx
 obtain ⟨hg,cur,ty,z,hh,hle,hc⟩:=jJ h hH
 subst h6
 refine ⟨_,fun W hW=>lx ho e (kX h1 ha h5i (g:=fun j=>cur.getD (off+j) undef) fun j hj=>?_),_,rfl,by simp,fun j hj=>?_⟩
 ·have hlt:off+j<cur.size:=by omega
  have hcell:w.cell? ⟨b,off+j,none⟩=some (cur.getD (off+j) undef):=by
   rw [cell_of_row w b (off+j) cur ty z hh];simp [hlt]
  exact (db (hW.block b hg) _).trans hcell
 ·have:=hc (off+j) O
  simp [hj] at this ⊢
  exact this
theorem LX (i:Nat) [h0:dO G.gs i] {d:TypeDesc} {g:Nat} (ho:o.op=.load t (.global g)) (hg:gs[i]?=some g) (h1:P.underlying t=some d) (ha:iw P t=false):ci P G o s (.err (i+1)):=fun St a w h=>by
 have hl:=h0.lt g hg
 have hg:(nk G.gs)[i]?=some g:=by rw [h0.eq];exact hg
 have hc:=h.sn.var i g hg hl
 refine ⟨_,fun W hW=>lx ho (p:=⟨g,0,none⟩) rfl (kY h1 ha ?_),rfl⟩
 exact (db (hW g (h.sg.1 g hl)) 0).trans hc

theorem QB {i off:Nat} {g:Option Nat} (ho:o.op=.nilCheck x) (hx:s.eval x=.op i g off):ci P G o s (.op i g off):=fun St a w h=>by
 obtain ⟨b,rfl,e⟩:=ji h hx
 exact ⟨_,fun W _=>by simp only [execOp,ho,e];rfl,b,rfl,rfl⟩
theorem QA {n:Nat} {f:Nat→CV} (ho:o.op=.nilCheck x) (hx:s.eval x=.rp n f):ci P G o s (.rp n f):=fun St a w h=>by
 obtain ⟨b,q,e,hb,hf⟩:=ji h hx
 exact ⟨_,fun W _=>by simp only [execOp,ho,e];rfl,b,q,rfl,hb,hf⟩
theorem QC {n:Nat} {g:FuncId} {f:Nat→CV} (ho:o.op=.nilCheck x) (hx:s.eval x=.fn g n f):ci P G o s (.fn g n f):=fun St a w h=>by
 obtain ⟨cs,e,hn,hf⟩:=ji h hx
 exact ⟨_,fun W _=>by simp only [execOp,ho,e];rfl,cs,rfl,hn,hf⟩

theorem LR {z x' y':Operand} {v:CV} (ho:o.op=.pick z x' y') (hz:s.eval z=.c (.bool true)) (hx:s.eval x'=v):ci P G o s v:=fun St a w h =>
 ⟨a.eval x',fun W _=>by simp only [execOp,ho,kM h hz];simp [asBool],ji h hx⟩
theorem LS {z x' y':Operand} {v:CV} (ho:o.op=.pick z x' y') (hz:s.eval z=.c (.bool false)) (hy:s.eval y'=v):ci P G o s v:=fun St a w h =>
 ⟨a.eval y',fun W _=>by simp only [execOp,ho,kM h hz];simp [asBool],ji h hy⟩
end
section
variable {P:Program} {G:Gh} {ops:Array Oper} {o:Oper} {s:AS} {K:AS→Prop} {t u:TypeId} {x y:Operand} {k:IntKind}

def AS.with (s:AS) (dst:Option Tmp) (v:CV) (H:List (Option Nat×bi)):AS:=⟨(s.put dst v).env,s.b,H⟩

theorem Ef.len {al:List Addr} {St:Nat→Prop} {w:World} {base:Nat} {F0:Nat→Prop} {H:List (Option Nat×bi)} {fp:Nat→Nat→Prop} (h:Ef al St w base F0 H fp) {i b:Nat} (hb:fp i b):i<H.length:=by
 rcases Z1 i H.length with h1|h1
 ·exact h1
 ·exact absurd hb (h.out i h1 b)

theorem az.fresh {St:Nat→Prop} {a:Act} {w w':World} (h:az G St s a w) (hb:Below w.heap.size w w') {g:Nat} (hg:w.heap.size≤g) {cs:Array Value} {ty:TypeId} (hc:w'.heap[g]?=some (.cells cs ty (0,0)))
  {n:Nat} {f:Nat→CV} (hn:n≤cs.size) (hf:∀ j,j<n→ba G.al St w' (f j) (cs.getD j undef)):az G St ⟨s.env,s.b,s.H++[(some g,.blk n f)]⟩ a w':=by
 have h1:=h.ext hb
 have hlt:g<w'.heap.size:=(Y4.1 hc).1
 refine ⟨h1.df,h1.sz,h1.env,h1.un,h1.s1,h1.s2,h1.s3,?_,h1.sn,h1.sg⟩
 obtain ⟨fp,hp⟩:=h.hp
 obtain ⟨fp1,hp1⟩:=h1.hp
 have he:qS St w w':=qS.of_below hb h.s3
 have hnew:∀ i,¬ fp i g:=fun i hi=>by have:=(hp.own i g hi).1;omega
 refine ⟨fun i b=>if i=s.H.length then b=g else fp i b,fun i q r hi=>?_,fun i j b h2 h3=>?_,fun i b h2=>?_,fun i hi b h2=>?_⟩
 ·by_cases e:i=s.H.length
  ·subst e
   simp at hi
   obtain ⟨rfl,rfl⟩:=hi
   exact ⟨fun b=>by simp,cs,ty,hc,hn,hf⟩
  ·have hi':s.H[i]?=some (q,r):=by
    rcases Z1 i s.H.length with h4|h4
    ·rwa [YL h4] at hi
    ·rw [Y6 (by simp;omega)] at hi;cases hi
   have e2:(fun b=>if i=s.H.length then b=g else fp i b)=fp i:=funext fun b=>by simp [e]
   show r.rep G.al St w' (fun b=>if i=s.H.length then b=g else fp i b) q
   rw [e2]
   exact bi.rep_evo he (fun _ x=>x) (fun b hF=>hb.block b (hp.own i b hF).1) (hp.rep i q r hi')
 ·by_cases e1:i=s.H.length <;> by_cases e2:j=s.H.length
  ·omega
  ·simp only [e1,e2,if_true,if_false] at h2 h3;subst h2;exact absurd h3 (hnew j)
  ·simp only [e1,e2,if_true,if_false] at h2 h3;subst h3;exact absurd h2 (hnew i)
  ·simp only [e1,e2,if_false] at h2 h3;exact hp.dis i j b h2 h3
 ·by_cases e:i=s.H.length
  ·simp only [e,if_true] at h2
   subst h2
   exact ⟨hlt,fun hs=>by have:=h.s3 _ hs;omega,.inl (Zd h.un.size hg)⟩
  ·simp only [e,if_false] at h2
   obtain ⟨h3,h4,h5⟩:=hp.own i b h2
   exact ⟨Zf h3 hb.size,h4,h5⟩
 ·have e:i≠s.H.length:=by simp at hi;omega
  simp only [e,if_false] at h2
  exact hp.out i (by simp at hi;omega) b h2

theorem eu (w:World) (x:Obj):Below w.heap.size w (w.alloc x):=(Below.refl _ _).alloc (YG _) _

theorem kQ.new {n:Nat} {f:Nat→CV} (hd:cq G o=true) (v:Option Nat→CV)
  (h:∀ St a w,az G St s a w→∃ w' g cs ty x,(execOp a.eval o).run P w=.ok (.value x) w'∧Below w.heap.size w w'∧w.heap.size≤g∧w'.heap[g]?=some (.cells cs ty (0,0))∧n≤cs.size∧(∀ j,j<n→ba G.al St w' (f j) (cs.getD j undef))∧ba G.al St w' (v (some g)) x)
  (hK:∀ g,K (s.with o.dst (v g) (s.H++[(g,.blk n f)]))):kQ P G o s K:=fun St a w hr Q=>by
 obtain ⟨w',g,cs,ty,x,h1,h2,h3,h4,h5,h6,h7⟩:=h St a w hr
 unfold Oper.wp
 rw [h1]
 refine ⟨h2,St,fun _ h=>h,_,hK (some g),?_⟩
 have:=(hr.fresh h2 h3 h4 h5 h6).put (dst:=o.dst) (v:=v (some g)) (x:=x) (eC hd) h7
 cases ho:o.dst with
 | none=>rw [ho] at this;exact this
 | some d=>rw [ho] at this;exact this

theorem Ot {z:Value} {n:Nat} (ho:o.op=.alloc t) (hz:(P.info? t).map (·.zero)=some (some z)) (hn:z.cells.size=n) (hd:cq G o=true)
  (hK:∀ g,K (s.with o.dst (.op s.H.length g 0) (s.H++[(g,.blk n fun j=>.c (z.cells.getD j undef))]))):kQ P G o s K :=
 kQ.new hd (fun g=>.op s.H.length g 0) (fun St a w hr=>by
  obtain ⟨info,hi,hz⟩:=YM.1 hz
  refine ⟨w.alloc (.cells z.cells t),w.heap.size,z.cells,t,.pointer (some ⟨w.heap.size,0,none⟩),?_,eu w _,YG _,heap_alloc_new w _,by omega,fun j _=>rfl,_,rfl,rfl⟩
  simp only [execOp,ho]
  refine lY ?_
  simp [Instr.alloc,zeroValue,typeInfo,hi,hz,newVar,newRow]) hK

def fA:CV→Option (List CV)
 | .agg n f=>some ((List.range n).map f)
 | .c (.tuple _)=>none
 | .c v=>some (v.cells.toList.map .c)
 | .top=>none
 | .tup _ _=>none
 | x=>some [x]
def BP (al:List Addr) (St:Nat→Prop) (w:World) (l:List CV) (cs:Array Value):Prop:=cs.size=l.length∧∀ i,i<l.length→ba al St w (fl l i) (cs.getD i undef)

theorem dJ:∀ (l:List CV) (i:Nat),fl l i=l.getD i .top
 | [],i=>by simp [fl]
 | x::r,0=>rfl
 | x::r,i+1=>by rw [fl,dJ r i];simp
theorem kl {al:List Addr} {St:Nat→Prop} {w:World} {c:CV} {v:Value} (h:ba al St w c v):BP al St w [c] #[v] :=
 ⟨rfl,fun i hi=>by
  have:i=0:=by simp at hi;omega
  subst this
  exact h⟩
theorem ua {al:List Addr} {St:Nat→Prop} {w:World}:∀ {c:CV} {v:Value} {l:List CV},ba al St w c v→fA c=some l→BP al St w l v.cells
 | .agg n f,v,l,⟨cs,h1,h2,h3⟩,hc=>by
  simp only [fA,Zi] at hc
  subst hc h1
  refine ⟨by simp [Value.cells,h2],fun i hi=>?_⟩
  have hi:i<n:=by simpa using hi
  rw [dJ]
  have:=h3 i hi
  simpa [Value.cells,hi,List.getD] using this
 | .c u,v,l,h,hc=>by
  have h:v=u:=h
  subst h
  have key:∀ l',fA (.c v)=some l'→l'=v.cells.toList.map .c:=by
   intro l' h'
   cases v <;> simp [fA] at h' <;> exact h'.symm
  rw [key l hc]
  refine ⟨by simp,fun i hi=>?_⟩
  have hi:i<v.cells.size:=by simpa using hi
  rw [dJ]
  simp [List.getD,hi]
  rfl
 | .err n,v,l,h,hc=>by
  simp only [fA,Zi] at hc
  subst hc
  have h':v=ev al n:=h
  have e:v.cells=#[v]:=by subst h';unfold ev;split <;> rfl
  rw [e]
  exact kl (c:=.err n) h
 | .rs k n f,v,l,h,hc=>by
  simp only [fA,Zi] at hc
  subst hc
  have e:v.cells=#[v]:=by obtain ⟨ao,cap,h1,_⟩:=h;subst h1;rfl
  rw [e]
  exact kl (c:=.rs k n f) h
 | .rp n f,v,l,h,hc=>by
  simp only [fA,Zi] at hc
  subst hc
  have e:v.cells=#[v]:=by obtain ⟨b,q,h1,_⟩:=h;subst h1;rfl
  rw [e]
  exact kl (c:=.rp n f) h
 | .os i none off n k,v,l,h,hc=>by
  simp only [fA,Zi] at hc
  subst hc
  have e:v.cells=#[v]:=by rw [h.2];rfl
  rw [e]
  exact kl (c:=.os i none off n k) h
 | .os i (some g) off n k,v,l,h,hc=>by
  simp only [fA,Zi] at hc
  subst hc
  have e:v.cells=#[v]:=by obtain ⟨cap,h1,_⟩:=h;rw [h1];rfl
  rw [e]
  exact kl (c:=.os i (some g) off n k) h
 | .op i g off,v,l,h,hc=>by
  simp only [fA,Zi] at hc
  subst hc
  have e:v.cells=#[v]:=by obtain ⟨b,_,h1⟩:=h;rw [h1];rfl
  rw [e]
  exact kl (c:=.op i g off) h
 | .pv p,v,l,h,hc=>by
  simp only [fA,Zi] at hc
  subst hc
  rw [(p.one h).1]
  exact kl (c:=.pv p) h
 | .fn g n f,v,l,h,hc=>by
  simp only [fA,Zi] at hc
  subst hc
  have e:v.cells=#[v]:=by obtain ⟨cs,h1,_⟩:=h;rw [h1];rfl
  rw [e]
  exact kl (c:=.fn g n f) h

theorem U7 {n:Nat} {c:CV} {l:List CV} (ho:o.op=.box t x) (hx:s.eval x=c) (hl:fA c=some l) (hn:l.length=n) (hd:cq G o=true)
  (hK:∀ g,K (s.with o.dst (.op s.H.length g 0) (s.H++[(g,.blk n (fl l))]))):kQ P G o s K :=
 kQ.new hd (fun g=>.op s.H.length g 0) (fun St a w hr=>by
  have hr':=ua (ji hr hx) hl
  refine ⟨w.alloc (.cells (a.eval x).cells t),w.heap.size,(a.eval x).cells,t,.pointer (some ⟨w.heap.size,0,none⟩),?_,eu w _,YG _,heap_alloc_new w _,by rw [hr'.1];omega,fun j hj=>?_,_,rfl,rfl⟩
  ·simp only [execOp,ho]
   refine lY ?_
   simp [Instr.box,newVar,newRow]
  ·exact ba.evo (qS.of_below (eu w _) hr.s3) (fun _ h=>h) _ _ (hr'.2 j O)) hK

def Ck:List CV→Nat→List CV→List CV
 | cs,_,[]=>cs
 | cs,i,x::r=>Ck (cs.set i x) (i+1) r
def sE (place:Nat→Option (Nat×Nat)):List CV→List (Nat×CV)→Option (List CV)
 | cs,[]=>some cs
 | cs,(i,v)::r =>
  match place i,fA v with
  | some (off,size),some l=>if l.length≠size || off+l.length>cs.length then none else sE place (Ck cs off l) r
  | _,_=>none

theorem LL {al:List Addr} {St:Nat→Prop} {w:World} {l:List CV} {cs:Array Value} {c:CV} {v:Value} (h:BP al St w l cs) (i:Nat) (hv:ba al St w c v):BP al St w (l.set i c) (cs.setIfInBounds i v):=by
 refine ⟨by simp [h.1],fun j hj=>?_⟩
 have hj:j<l.length:=by simpa using hj
 rw [dJ]
 have hjc:j<cs.size:=by rw [h.1];exact hj
 by_cases e:i=j
 ·subst e
  simp [List.getD,hj,hjc]
  exact hv
 ·have:=h.2 j hj
  rw [dJ] at this
  simp [List.getD,e] at this ⊢
  exact this
theorem ww {al:List Addr} {St:Nat→Prop} {w:World}:∀ (vs:List Value) (ls:List CV) (l:List CV) (cs:Array Value) (off j:Nat),BP al St w l cs→vs.length=ls.length→(∀ i,i<ls.length→ba al St w (fl ls i) (vs.getD i undef)) →
  BP al St w (Ck l (off+j) ls) ((vs.zipIdx j).foldl (fun cs (c,j)=>cs.setIfInBounds (off+j) c) cs)
 | [],[],_,_,_,_,h,_,_=>h
 | [],_::_,_,_,_,_,_,hl,_=>by simp at hl
 | _::_,[],_,_,_,_,_,hl,_=>by simp at hl
 | v::vs,c::ls,l,cs,off,j,h,hl,hv=>by
  simp only [Ck,List.zipIdx_cons,aRx]
  have h0:=hv 0 (by simp)
  have:=ww vs ls (l.set (off+j) c) (cs.setIfInBounds (off+j) v) off (j+1) (LL h _ h0) (by simpa using hl) (fun i hi=>by
   have:=hv (i+1) (by simp;omega)
   simpa [fl] using this)
  rw [← bhx] at this
  exact this
theorem sD {al:List Addr} {St:Nat→Prop} {w:World} {place:Nat→Option (Nat×Nat)}:∀ (ps:List (Nat×Value)) (qs:List (Nat×CV)) (l:List CV) (cs:Array Value) (l':List CV),BP al St w l cs→ps.length=qs.length →
  (∀ i,i<qs.length→(ps.getD i (0,undef)).1=(qs.getD i (0,.top)).1∧ba al St w (qs.getD i (0,.top)).2 (ps.getD i (0,undef)).2)→sE place l qs=some l'→∃ cs',Instr.fill place cs ps=some cs'∧BP al St w l' cs'
 | [],[],l,cs,l',h,_,_,hf=>by
  simp only [sE,Zi] at hf
  subst hf
  exact ⟨cs,rfl,h⟩
 | [],_::_,_,_,_,_,hl,_,_=>by simp at hl
 | _::_,[],_,_,_,_,hl,_,_=>by simp at hl
 |(i,v)::ps,(j,c)::qs,l,cs,l',h,hl,hv,hf=>by
  obtain ⟨h1,h2⟩:=hv 0 (by simp)
  simp at h1 h2
  subst h1
  rw [sE] at hf
  split at hf
  ·rename_i off size ls hp hc
   split at hf
   ·cases hf
   ·rename_i hcond
    simp at hcond
    have hr:=ua h2 hc
    obtain ⟨cs',h3,h4⟩:=sD (place:=place) ps qs (Ck l off ls) (v.cells.zipIdx.foldl (fun cs (c,j)=>cs.setIfInBounds (off+j) c) cs) l' (by
     have:=ww (al:=al) (St:=St) (w:=w) v.cells.toList ls l cs off 0 h (by simpa using hr.1) (fun i hi=>by
      have:=hr.2 i hi
      simpa [List.getD] using this)
     rw [Zt] at this
     rw [← Array.foldl_toList,Array.toList_zipIdx]
     exact this) (by simpa using hl) (fun i hi=>by
      have:=hv (i+1) (by simp;omega)
      simpa using this) hf
    refine ⟨cs',?_,h4⟩
    rw [Instr.fill]
    simp only [hp]
    rw [YE (by simp [hr.1,h.1];omega)]
    exact h3
  ·cases hf

def oJ (P:Program) (t:TypeId):Option (List (Nat×Nat)):=match P.underlying t with
 | some (.struct fs)=>fs.toList.mapM fun f=>(P.info? f.type).map fun i=>(f.offset,i.size)
 | _=>none
theorem vZ:∀ (fs:List Field) (pl:List (Nat×Nat)) (W:World),(fs.mapM fun f=>(P.info? f.type).map fun i=>(f.offset,i.size))=some pl→(fs.mapM fun f=>do pure (f.offset,← sizeOf f.type):Sem (List (Nat×Nat))).run P W=.ok pl W
 | [],pl,W,h=>by simp at h;subst h;rfl
 | f::fs,pl,W,h=>by
  simp only [List.mapM_cons,Option.bind_eq_bind,Option.bind_eq_some_iff] at h
  obtain ⟨a,ha,pl',h2,h3⟩:=h
  obtain ⟨info,hi,rfl⟩:=YM.1 ha
  have ih:=vZ fs pl' W h2
  simp at h3
  subst h3
  simp [List.mapM_cons,sizeOf,typeInfo,hi] at ih ⊢
  rw [ih]
  rfl

theorem ai {z:Value} {pl:List (Nat×Nat)} {parts:Array (Nat×Operand)} {l:List CV} {n:Nat} (ho:o.op=.build t parts) (hz:(P.info? t).map (·.zero)=some (some z)) (hp:oJ P t=some pl)
  (hf:sE (pl[·]?) (z.cells.toList.map .c) (parts.toList.map fun p=>(p.1,s.eval p.2))=some l) (hn:l.length=n):ci P G o s (.agg n (fl l)):=fun St a w h=>by
 obtain ⟨info,hi,hz⟩:=YM.1 hz
 unfold oJ at hp
 split at hp
 ·rename_i fs hu
  obtain ⟨cs',h1,h2⟩:=sD (al:=G.al) (St:=St) (w:=w) (parts.toList.map fun p=>(p.1,a.eval p.2)) _ (z.cells.toList.map .c) z.cells l ⟨by simp,fun i hi=>by
    have hi:i<z.cells.size:=by simpa using hi
    rw [dJ];simp [List.getD,hi];rfl⟩ (by simp) (fun i hi=>by
    have hi:i<parts.size:=by simpa using hi
    simp [List.getD,hi]
    exact h.eval _) hf
  refine ⟨.agg cs',fun W _=>?_,cs',rfl,by rw [h2.1,hn],fun i hi=>h2.2 i O⟩
  simp only [execOp,ho]
  refine lY ?_
  have hr:=vZ (P:=P) fs.toList pl W hp
  have e:(fs.mapM fun f=>do pure (f.offset,← sizeOf f.type):Sem (Array (Nat×Nat))).run P W=.ok pl.toArray W:=by
   rw [Array.mapM_eq_mapM_toList]
   simp only [Sem.run_map,hr,Result.andThen_ok]
  simp only [Instr.build,zeroValue,typeInfo,Sem.run_bind,run_program,Result.andThen_ok,hi,Sem.run_pure,hz,underlying,hu,e]
  have h1':Instr.fill (fun x=>pl.toArray[x]?) z.cells (parts.map fun p=>(p.1,a.eval p.2)).toList=some cs':=by simpa using h1
  simp only [h1',Sem.run_pure]
 ·cases hp

theorem yg {e:TypeId} {z:Value} {len m:Nat} {parts:Array (Nat×Operand)} {l:List CV} {n:Nat} (ho:o.op=.buildSlice t len parts) (h1:P.underlying t=some (.slice e)) (h5:(P.info? e).map (·.size)=some m) (hz:(P.info? e).map (·.zero)=some (some z))
  (hm:Nat.ble (len * m) 16777216=true) (hlen:Nat.ble len 16777216=true) (hf:sE (fun i=>some (i * m,m)) ((List.range (len * m)).map fun i=>.c (z.cells[i % z.cells.size]!)) (parts.toList.map fun p=>(p.1,s.eval p.2))=some l) (hn:l.length=n) (hle:n=len * m) (hd:cq G o=true)
  (hK:∀ g,K (s.with o.dst (.os s.H.length g 0 len m) (s.H++[(g,.blk n (fl l))]))):kQ P G o s K :=
 kQ.new hd (fun g=>.os s.H.length g 0 len m) (fun St a w hr=>by
  obtain ⟨info,hi,h6⟩:=YM.1 h5
  obtain ⟨info',hi',hz⟩:=YM.1 hz
  obtain rfl:=Y9 (hi.symm.trans hi')
  have hm':len * m≤16777216:=YU hm
  let zs:Array Value:=if len * m=0 then #[] else z.cells
  obtain ⟨cs',h2,h3⟩:=sD (al:=G.al) (St:=St) (w:=w) (parts.toList.map fun p=>(p.1,a.eval p.2)) _ _ ((Array.range (len * m)).map (z.cells[· % z.cells.size]!)) l ⟨by simp,fun i hi=>by
    have hi:i<len * m:=by simpa using hi
    rw [dJ];simp [List.getD,hi];rfl⟩ (by simp) (fun i hi=>by
    have hi:i<parts.size:=by simpa using hi
    simp [List.getD,hi]
    exact hr.eval _) hf
  refine ⟨w.alloc (.cells cs' e),w.heap.size,cs',e,.slice (some ⟨w.heap.size,0,none⟩) len len,?_,eu w _,YG _,heap_alloc_new w _,by rw [h3.1];omega,fun j hj=>?_,len,rfl,YG _,?_,cs',e,(0,0),heap_alloc_new w _,?_⟩
  ·simp only [execOp,ho]
   refine lY ?_
   have e0:(Array.range (len * m)).map (zs[· % zs.size]!)=(Array.range (len * m)).map (z.cells[· % z.cells.size]!):=by
    by_cases h0:len * m=0
    ·simp [h0]
    ·simp only [zs,h0,if_false]
   have h2':Instr.fill (fun i=>some (i * m,m)) ((Array.range (len * m)).map (zs[· % zs.size]!)) (parts.map fun p=>(p.1,a.eval p.2)).toList=some cs':=by rw [e0];simpa using h2
   simp only [Instr.buildSlice,underlying,Sem.run_bind,run_program,Result.andThen_ok,h1,Sem.run_pure,sizeOf,typeInfo,hi,h6]
   rw [YE (show ¬ len * m>2 ^ 24 by omega)]
   by_cases h0:len * m=0
   ·simp only [h0,if_true] at h2' ⊢
    simp only [zs,h0,if_true] at h2'
    simp only [Sem.run_bind,Sem.run_pure,Result.andThen_ok,h2',newRow,run_newObj,World.alloc_eq]
   ·simp only [YE h0,Sem.run_bind,zeroValue,typeInfo,run_program,Result.andThen_ok,hi,hz,Sem.run_pure]
    simp only [zs,YE h0] at h2'
    simp only [h2',Sem.run_bind,newRow,run_newObj,Sem.run_pure,Result.andThen_ok,World.alloc_eq]
  ·exact ba.evo (qS.of_below (eu w _) hr.s3) (fun _ h=>h) _ _ (h3.2 j O)
  ·have:=YU hlen;omega
  ·rw [h3.1];omega) hK

def bA (P : Program) (f : FuncId) : Bool := match P.funcs[f]? with | some fn => fn.body.isSome && !(fn.name == "runtime.NumGoroutine") | none => false
theorem pO {f:FuncId} (hc:bA P f=true) (args:Array Value) (W:World):(callFunc f args).run P W=.ok (.enter f args) W:=by
 unfold bA at hc
 split at hc
 ·rename_i fn hf
  simp only [YK,aWx] at hc
  obtain ⟨h1,h2⟩:=hc
  have h3:fn.body.isNone=false:=by cases hb:fn.body <;> simp_all
  have h4 : ¬ fn.name = "runtime.NumGoroutine" := by simpa using h2
  have h5:¬ fn.body=none:=fun h=>by rw [h] at h1;cases h1
  simp [callFunc,hf,h4,h5]
 ·cases hc

theorem tU {f:FuncId} {xs:Array Operand} {ats:Array TypeId} (ho:o.op=.call ⟨.value (.func f),xs,ats⟩) (hc:bA P f=true) (a:Act) (W:World) :
  (execOp a.eval o).run P W=.ok (.enter f (xs.map a.eval)) W:=by
 have e:a.eval (.func f)=.func (.func f) #[] #[]:=rfl
 simp [execOp,ho,resolve,e,Deferred.ofValue,invoke,pO hc]
theorem xp {f:FuncId} {v:Operand} {cs:Array Value} {xs:Array Operand} {ats:Array TypeId} (ho:o.op=.call ⟨.value v,xs,ats⟩) (hc:bA P f=true) (a:Act) (hv:a.eval v=.func (.func f) #[] cs) (W:World) :
  (execOp a.eval o).run P W=.ok (.enter f (xs.map a.eval++cs)) W:=by
 simp [execOp,ho,resolve,hv,Deferred.ofValue,invoke,pO hc]

theorem DI {l m:List CV} (h:oQ l m):l.length=m.length:=by
 induction h with
 | nil=>rfl
 | cons _ _ ih=>simp [ih]
theorem DJ {l m:List CV} (h:oQ l m):∀ i,aa (fl l i) (fl m i):=by
 induction h with
 | nil=>exact fun i=>I
 | cons h1 _ ih =>
  intro i
  cases i with
  | zero=>exact h1
  | succ i=>exact ih i
theorem zY (l m:List CV) (i:Nat):fl (l++m) i=if i<l.length then fl l i else fl m (i-l.length):=by
 rw [dJ,dJ,dJ]
 split
 ·rename_i h;simp [List.getD,YL h]
 ·rename_i h;simp [List.getD,YX (bgx h)]

theorem az.after {St St':Nat→Prop} {a:Act} {w w':World} (h:az G St s a w) {H':List (Option Nat×bi)} (hu:jr (fun _=>False) w w') (h1:∀ b,St b→St' b) (h2:∀ b,St' b→St b∨w.heap.size≤b∨False) (h3:∀ b,St' b→b<w'.heap.size) (hp':dr G.al St' w' w.heap.size (fun _=>False) H') :
  az G St' ⟨s.env,s.b,s.H++H'⟩ a w':=by
 have hb:=hu.below
 have he:qS St w w':=qS.of_below hb h.s3
 obtain ⟨fp,hp⟩:=h.hp
 obtain ⟨fp',hp'⟩:=hp'
 refine ⟨h.df.keep h1 (fun b hb'=>hb.block b (h.s3 b hb')),h.sz,fun d=>ba.evo he h1 _ _ (h.env d),h.un.then hb,fun b hs=>h1 b (h.s1 b hs),fun b hs=>?_,h3,?_,?_,fun g hg=>h1 g (h.sg.1 g hg),fun x hx=>h1 _ (h.sg.2 x hx)⟩
 ·rcases h2 b hs with hs|hs|hs
  ·exact h.s2 b hs
  ·exact .inr (.inl (Zd h.un.size hs))
  ·exact hs.elim
 ·refine ⟨fun i b=>(i<s.H.length∧fp i b)∨(s.H.length≤i∧fp' (i-s.H.length) b),fun i q r hi=>?_,fun i j b hi hj=>?_,fun i b hi=>?_,fun i hi b hb'=>?_⟩
  ·by_cases hl:i<s.H.length
   ·rw [YL hl] at hi
    have e:(fun b=>(i<s.H.length∧fp i b)∨(s.H.length≤i∧fp' (i-s.H.length) b))=fp i:=funext fun b=>propext ⟨fun h=>h.elim (fun h=>h.2) (fun h=>by omega),fun h=>.inl ⟨hl,h⟩⟩
    show r.rep G.al St' w' (fun b=>(i<s.H.length∧fp i b)∨(s.H.length≤i∧fp' (i-s.H.length) b)) q
    rw [e]
    exact bi.rep_evo he h1 (fun b hF=>hb.block b (hp.own i b hF).1) (hp.rep i q r hi)
   ·rw [YX O] at hi
    have e:(fun b=>(i<s.H.length∧fp i b)∨(s.H.length≤i∧fp' (i-s.H.length) b))=fp' (i-s.H.length):=funext fun b=>propext ⟨fun h=>h.elim (fun h=>by omega) (fun h=>h.2),fun h=>.inr ⟨by omega,h⟩⟩
    show r.rep G.al St' w' (fun b=>(i<s.H.length∧fp i b)∨(s.H.length≤i∧fp' (i-s.H.length) b)) q
    rw [e]
    exact hp'.rep _ q r hi
  ·rcases hi with ⟨a1,a2⟩|⟨a1,a2⟩ <;> rcases hj with ⟨b1,b2⟩|⟨b1,b2⟩
   ·exact hp.dis i j b a2 b2
   ·have c1:=(hp.own i b a2).1
    rcases (hp'.own _ b b2).2.2 with c2|c2
    ·omega
    ·exact c2.elim
   ·have c1:=(hp.own j b b2).1
    rcases (hp'.own _ b a2).2.2 with c2|c2
    ·omega
    ·exact c2.elim
   ·have:=hp'.dis _ _ b a2 b2
    omega
  ·rcases hi with ⟨a1,a2⟩|⟨a1,a2⟩
   ·obtain ⟨c1,c2,c3⟩:=hp.own i b a2
    refine ⟨Zf c1 hb.size,fun hs=>?_,c3⟩
    rcases h2 b hs with hs|hs|hs
    ·exact c2 hs
    ·omega
    ·exact hs
   ·obtain ⟨c1,c2,c3⟩:=hp'.own _ b a2
    refine ⟨c1,c2,.inl ?_⟩
    rcases c3 with c3|c3
    ·exact Zd h.un.size c3
    ·exact c3.elim
  ·rcases hb' with ⟨a1,_⟩|⟨a1,a2⟩
   ·simp at hi;omega
   ·exact hp'.out _ (by simp at hi;omega) b a2
 ·exact gc.keep h.sn (fun g hg=>hb.block g (h.s3 _ (h.sg.1 g hg))) (fun x hx=>hb.block _ (h.s3 _ (h.sg.2 x hx)))

theorem Ow {St:Nat→Prop} {a:Act} {w:World} (h:az G St s a w):uR G.gs G.al St (fun _=>False) [] w :=
 ⟨h.s3,h.sn,h.sg,⟨fun _ _=>False,fun i g r hi=>by simp at hi,fun _ _ _ h=>h.elim,fun _ _ h=>h.elim,fun _ _ _ h=>h⟩,fun _ h=>h.elim⟩

theorem Oo {f:FuncId} {v:Operand} {n:Nat} {fv:Nat→CV} {xs:Array Operand} {ats:Array TypeId} {args:List CV} {Q:CV→List (Option Nat×bi)→Prop} (ho:o.op=.call ⟨.value v,xs,ats⟩) (hv:s.eval v=.fn f n fv) (hc:bA P f=true) (he:oQ (xs.toList.map s.eval++(List.range n).map fv) args) (hA:AC G.gs P f [] args Q) (hd:cq G o=true)
  (hK:∀ r H',Q r H'→K (s.with o.dst r (s.H++H'))):kQ P G o s K:=fun St a w hr Q'=>by
 obtain ⟨cs,hcs,hn,hf⟩:=ji hr hv
 unfold Oper.wp
 rw [xp ho hc a hcs]
 have hl:=DI he
 simp at hl
 refine (hA G.al w St _ _ (Ow hr) (by simp [hn,hl]) (fun i=>?_)).mono ?_
 ·by_cases hi:i<args.length
  ·refine DJ he i _ _ _ _ ?_
   rw [zY]
   by_cases h1:i<xs.size
   ·rw [YF (by simpa using h1),dJ]
    simp [List.getD,h1,ZI]
    exact hr.eval _
   ·rw [YE (by simpa using h1),dJ]
    have h2:i-xs.size<n:=by omega
    have:=hf _ h2
    simp [List.getD,h2,aox (show (xs.map a.eval).size≤i by simp;omega)] at this ⊢
    exact this
  ·rw [qj args i O];trivial
 rintro e w' ⟨v,r,H',St',rfl,hq,hv,hu,h3,h4,h5,h6⟩
 refine ⟨hu.below,St',h3,_,hK r H' hq,?_⟩
 have:=(hr.after hu h3 h4 h5 h6).put (dst:=o.dst) (eC hd) hv
 cases ho:o.dst with
 | none=>rw [ho] at this;exact this
 | some d=>rw [ho] at this;exact this

theorem aI {r:List Oper} {s':AS} (he:dh G s s') (h:cJ P G ops r s' K):cJ P G ops r s K:=fun a w hr Q hQ=>h a w (he.rel hr) Q hQ
theorem hZ {tr:eN} {s':AS} (he:dh G s s') (h:AX P G ops tr s' K):AX P G ops tr s K:=fun a w hr Q R hQ=>h a w (he.rel hr) Q R hQ
theorem BV {tr:eN} {s':AS} (he:dh G s s') (h:AZ P G ops tr s' K):AZ P G ops tr s K:=fun St a w hr Q hQ=>by
 obtain ⟨S1,h1,h2⟩:=he St a w hr
 obtain ⟨S2,h3,h4⟩:=h S1 a w h2 Q hQ
 exact ⟨S2,fun b hb=>h3 b (h1 b hb),h4⟩

theorem freeze (i:Nat) {g:Option Nat} {n:Nat} {f:Nat→CV} (hH:s.H[i]?=some (g,.blk n f)):dh G s ⟨s.env,s.b,s.H.set i (g,.frz n f)⟩:=fun St a w h=>by
 obtain ⟨fp,hp⟩:=h.hp
 have hlt:i<s.H.length:=(YJ.1 hH).1
 have hrep:=hp.rep i g _ hH
 refine ⟨fun b=>St b∨fp i b,fun _ h=>.inl h,?_⟩
 have he:qS St w w:=⟨fun _ _ _ _ _ h=>h,fun b cur t z h=>⟨cur,z,h,rfl⟩⟩
 have hs:∀ b,St b→St b∨fp i b:=fun _ h=>.inl h
 refine ⟨h.df.grow hs,h.sz,fun d=>ba.evo he hs _ _ (h.env d),h.un,fun b hb=>.inl (h.s1 b hb),fun b hb=>?_,fun b hb=>?_,?_,h.sn,fun g hg=>.inl (h.sg.1 g hg),fun x hx=>.inl (h.sg.2 x hx)⟩
 ·rcases hb with hb|hb
  ·exact h.s2 b hb
  ·exact .inr (hp.own i b hb).2.2
 ·rcases hb with hb|hb
  ·exact h.s3 b hb
  ·exact (hp.own i b hb).1
 ·refine ⟨fun j b=>j≠i∧fp j b,fun j q r hj=>?_,fun j l b h1 h2=>hp.dis j l b h1.2 h2.2,fun j b h1=>?_,fun j hj b h1=>hp.out j (by simpa using hj) b h1.2⟩
  ·by_cases e:j=i
   ·subst e
    simp [hlt] at hj
    obtain ⟨rfl,rfl⟩:=hj
    cases g with
    | none=>exact ⟨hrep.1,fun b hb=>absurd rfl hb.1⟩
    | some g =>
     obtain ⟨h0,cur,t,h1,h2,h3⟩:=hrep
     exact ⟨fun b hb=>absurd rfl hb.1,.inr ((h0 g).2 rfl),cur,t,_,h1,h2,fun m hm=>ba.evo he hs _ _ (h3 m hm)⟩
   ·rw [YZ (Ne.symm e)] at hj
    have e2:(fun b=>j≠i∧fp j b)=fp j:=funext fun b=>propext ⟨fun h=>h.2,fun h=>⟨e,h⟩⟩
    show r.rep G.al _ w (fun b=>j≠i∧fp j b) q
    rw [e2]
    exact bi.rep_evo he hs (fun _ _=>rfl) (hp.rep j q r hj)
  ·obtain ⟨h2,h3,h4⟩:=hp.own j b h1.2
   exact ⟨h2,fun hb=>hb.elim h3 fun hb=>h1.1 (hp.dis j i b h1.2 hb),h4⟩

theorem dh.put {d:Nat} {v:CV} (hd:Nat.blt d G.N=true) (h:∀ St a w,az G St s a w→ba G.al St w v (a.tmps.getD d undef)):dh G s ⟨(d,v)::s.env,s.b,s.H⟩:=fun St a w hr=>by
 refine ⟨St,fun _ h=>h,hr.df,hr.sz,fun e=>?_,hr.un,hr.s1,hr.s2,hr.s3,hr.hp,hr.sn,hr.sg⟩
 by_cases hde:d=e
 ·subst hde;rw [fu];exact h St a w hr
 ·rw [dy _ _ _ hde];exact hr.env e
theorem aS (d:Nat) (v:CV) (h:aa (look s.env s.b d) v):dh G s ⟨(d,v)::s.env,s.b,s.H⟩:=fun St a w hr=>by
 refine ⟨St,fun _ h=>h,hr.df,hr.sz,fun e=>?_,hr.un,hr.s1,hr.s2,hr.s3,hr.hp,hr.sn,hr.sg⟩
 by_cases hde:d=e
 ·subst hde;rw [fu];exact h _ _ _ _ (hr.env d)
 ·rw [dy _ _ _ hde];exact hr.env e

theorem kg (d:Nat) {i off n m N:Nat} {g:Option Nat} {F:Nat→CV} (f:Nat→Nat→CV) (hl:look s.env s.b d=.os i g off n m) (hH:s.H[i]?=some (g,.frz N F)) (hN:off+n * m≤N) (hf:∀ a b,a<n→b<m→aa (F (off+(a * m+b))) (f a b)) :
  dh G s ⟨(d,.rs m n f)::s.env,s.b,s.H⟩:=fun St a w hr=>by
 refine ⟨St,fun _ h=>h,hr.df,hr.sz,fun e=>?_,hr.un,hr.s1,hr.s2,hr.s3,hr.hp,hr.sn,hr.sg⟩
 by_cases hde:d=e
 ·subst hde
  rw [fu]
  have he:=hr.env d
  rw [hl] at he
  cases g with
  | none =>
   obtain ⟨h1,h2⟩:=he
   subst h1
   exact ⟨none,0,h2,YG _,by decide,fun _=>rfl,fun _ h=>by cases h⟩
  | some g =>
   obtain ⟨cap,h1,h2,h3,_⟩:=he
   obtain ⟨fp,hp⟩:=hr.hp
   obtain ⟨_,hg,cur,t,z,hh,hle,hc⟩:=hp.rep i (some g) _ hH
   refine ⟨_,cap,h1,h2,h3,(fun h=>by cases h),fun ad ha _=>?_⟩
   cases ha
   refine ⟨rfl,hg,fun p q hp' hq=>?_⟩
   have hb:p * m+q<n * m:=by
    have:p * m+m≤n * m:=by rw [← b5x];exact ZG _ hp'
    omega
   have hlt:off+(p * m+q)<cur.size:=by omega
   refine ⟨cur.getD (off+(p * m+q)) undef,?_,hf p q hp' hq _ _ _ _ (hc _ O)⟩
   show w.cell? ⟨g,off+(p * m+q),none⟩=_
   rw [cell_of_row w g _ cur t z hh];simp [hlt]
 ·rw [dy _ _ _ hde];exact hr.env e
theorem lD (d:Nat) {i off m N:Nat} {g:Option Nat} {F:Nat→CV} (hl:look s.env s.b d=.op i g off) (hH:s.H[i]?=some (g,.frz N F)) (hN:off+m≤N) :
  dh G s ⟨(d,.rp m fun j=>F (off+j))::s.env,s.b,s.H⟩:=fun St a w hr=>by
 refine ⟨St,fun _ h=>h,hr.df,hr.sz,fun e=>?_,hr.un,hr.s1,hr.s2,hr.s3,hr.hp,hr.sn,hr.sg⟩
 by_cases hde:d=e
 ·subst hde
  rw [fu]
  have he:=hr.env d
  rw [hl] at he
  obtain ⟨b,rfl,he⟩:=he
  obtain ⟨fp,hp⟩:=hr.hp
  obtain ⟨_,hg,cur,t,z,hh,hle,hc⟩:=hp.rep i (some b) _ hH
  refine ⟨b,off,he,hg,fun j hj=>?_⟩
  have hlt:off+j<cur.size:=by omega
  refine ⟨cur.getD (off+j) undef,?_,hc _ O⟩
  rw [cell_of_row w b _ cur t z hh];simp [hlt]
 ·rw [dy _ _ _ hde];exact hr.env e

def iS:CV→Bool
 | .c v=>v.oneCell'
 | .err _|.rs _ _ _|.rp _ _|.os _ _ _ _ _|.op _ _ _|.fn _ _ _|.pv _=>true
 | _=>false
theorem sl {al:List Addr} {St:Nat→Prop} {w:World}:∀ {c:CV} {v:Value},iS c=true→ba al St w c v→v.oneCell'=true
 | .c u,v,hl,h=>by
  have h:v=u:=h
  rw [h];exact hl
 | .err n,v,_,h=>by
  have h:v=ev al n:=h
  rw [h];unfold ev;split <;> rfl
 | .rs _ _ _,v,_,⟨_,_,h,_⟩=>by rw [h];rfl
 | .rp _ _,v,_,⟨_,_,h,_⟩=>by rw [h];rfl
 | .os _ none _ _ _,v,_,h=>by rw [h.2];rfl
 | .os _ (some _) _ _ _,v,_,⟨_,h,_⟩=>by rw [h];rfl
 | .op _ _ _,v,_,⟨_,_,h⟩=>by rw [h];rfl
 | .fn _ _ _,v,_,⟨_,h,_⟩=>by rw [h];rfl
 | .pv p,v,_,h=>(p.one h).2

theorem az.write {St:Nat→Prop} {a:Act} {w:World} (h:az G St s a w) {i g n n':Nat} {f f':Nat→CV} (hH:s.H[i]?=some (some g,.blk n f)) {cur cs:Array Value} {ty:TypeId} (hc:w.heap[g]?=some (.cells cur ty (0,0))) (hs:cs.size=cur.size)
  (hn:n'≤cs.size) (hf:∀ j,j<n'→ba G.al St w (f' j) (cs.getD j undef)):az G St ⟨s.env,s.b,s.H.set i (some g,.blk n' f')⟩ a (w.setRow g cs):=by
 obtain ⟨fp,hp⟩:=h.hp
 have hlt:i<s.H.length:=(YJ.1 hH).1
 have hrep:=hp.rep i (some g) _ hH
 have hg:fp i g:=(hrep.1 g).2 rfl
 obtain ⟨hg1,hg2,hg3⟩:=hp.own i g hg
 have hnew:=setRow_heap w g cur cs ty (0,0) hc
 have hold:∀ b,b≠g→(w.setRow g cs).heap[b]?=w.heap[b]?:=fun b hb=>setRow_other w g b cs hb
 have hsz:(w.setRow g cs).heap.size=w.heap.size:=by simp [World.setRow]
 have he:qS St w (w.setRow g cs):=⟨fun b cu ct cz hb hcu=>(hold b (fun e=>hg2 (e ▸ hb))).trans hcu,fun b cu t z hb=>by
  by_cases e:b=g
  ·subst e
   rw [hc] at hb
   cases hb
   exact ⟨cs,(0,0),hnew,hs⟩
  ·exact ⟨cu,z,(hold b e).trans hb,rfl⟩⟩
 refine ⟨h.df.keep (fun _ h=>h) (fun b hb=>hold b (fun e=>hg2 (e ▸ hb))),h.sz,fun d=>ba.evo he (fun _ x=>x) _ _ (h.env d),⟨h.un.os,h.un.tape,h.un.output,by rw [hsz];exact h.un.size,fun k hk hF=>?_,fun b cu t z hb=>?_⟩,h.s1,h.s2,fun b hb=>by rw [hsz];exact h.s3 b hb,?_,?_,h.sg⟩
 ·refine (hold k (fun e=>?_)).trans (h.un.block k hk hF)
  subst e
  rcases hg3 with h1|h1
  ·omega
  ·exact hF h1
 ·obtain ⟨cur',z',h1,h2⟩:=h.un.sh b cu t z hb
  obtain ⟨cur2,z2,h3,h4⟩:=he.sh b cur' t z' h1
  exact ⟨cur2,z2,h3,h4.trans h2⟩
 ·refine ⟨fp,fun j q r hj=>?_,hp.dis,fun j b hb=>by rw [hsz];exact hp.own j b hb,fun j hj=>hp.out j (by simpa using hj)⟩
  by_cases e:j=i
  ·subst e
   simp [hlt] at hj
   obtain ⟨rfl,rfl⟩:=hj
   exact ⟨hrep.1,cs,ty,hnew,hn,fun m hm=>ba.evo he (fun _ x=>x) _ _ (hf m hm)⟩
  ·rw [YZ (Ne.symm e)] at hj
   exact bi.rep_evo he (fun _ x=>x) (fun b hF=>hold b (fun e2=>e (hp.dis j i b hF (e2 ▸ hg)))) (hp.rep j q r hj)
 ·exact gc.keep h.sn (fun q hq=>hold q (fun e=>hg2 (e ▸ h.sg.1 q hq))) (fun q hq=>hold _ (fun e=>hg2 (e ▸ h.sg.2 q hq)))

theorem az.move {St:Nat→Prop} {a:Act} {w:World} {env:List (Nat×CV)} {b0:Nat→CV} {H:List (Option Nat×bi)} {x:Option Nat×bi} (h:az G St ⟨env,b0,H++[x]⟩ a w) {i:Nat} (hi:i<H.length):az G St ⟨env,b0,H.set i x⟩ a w:=by
 refine ⟨h.df,h.sz,h.env,h.un,h.s1,h.s2,h.s3,?_,h.sn,h.sg⟩
 obtain ⟨fp,hp⟩:=h.hp
 refine ⟨fun j b=>j<H.length∧if j=i then fp H.length b else fp j b,fun j q r' hj=>?_,fun j l b h1 h2=>?_,fun j b h1=>?_,fun j hj b h1=>?_⟩
 ·have hj1:j<H.length:=by
   have:=(YJ.1 hj).1
   simpa using this
  by_cases e:j=i
  ·subst e
   simp [hi] at hj
   have e2:(fun b=>j<H.length∧if j=j then fp H.length b else fp j b)=fp H.length:=funext fun b=>by simp [hi]
   show r'.rep G.al St w (fun b=>j<H.length∧if j=j then fp H.length b else fp j b) q
   rw [e2]
   exact hp.rep H.length q r' (by simp [hj])
  ·rw [YZ (Ne.symm e)] at hj
   have e3:(fun b=>j<H.length∧if j=i then fp H.length b else fp j b)=fp j:=funext fun b=>by simp [e,hj1]
   show r'.rep G.al St w (fun b=>j<H.length∧if j=i then fp H.length b else fp j b) q
   rw [e3]
   exact hp.rep j q r' (by rw [YL hj1];exact hj)
 ·obtain ⟨a1,a2⟩:=h1
  obtain ⟨b1,b2⟩:=h2
  by_cases e1:j=i <;> by_cases e2:l=i
  ·omega
  ·simp only [e1,e2,if_true,if_false] at a2 b2
   have:=hp.dis _ _ b a2 b2
   omega
  ·simp only [e1,e2,if_true,if_false] at a2 b2
   have:=hp.dis _ _ b a2 b2
   omega
  ·simp only [e1,e2,if_false] at a2 b2
   exact hp.dis j l b a2 b2
 ·by_cases e:j=i
  ·simp only [e,if_true] at h1;exact hp.own _ b h1.2
  ·simp only [e,if_false] at h1;exact hp.own j b h1.2
 ·have:H.length≤j:=by simpa using hj
  omega
def gT (f:Nat→CV) (off:Nat):List CV→Nat→CV
 | []=>f
 | x::r=>gT (fun j=>match Nat.beq j off with|true=>x|false=>f j) (off+1) r
theorem dE:∀ (l:List CV) (f:Nat→CV) (off j:Nat),gT f off l j=if off≤j∧j<off+l.length then fl l (j-off) else f j
 | [],f,off,j=>by rw [gT,YE (by simp)]
 | x::r,f,off,j=>by
  rw [gT,dE r _ (off+1) j]
  by_cases h1:off+1≤j∧j<off+1+r.length
  ·rw [YF h1,YF (by simp;omega)]
   obtain ⟨m,hm⟩:∃ m,j-off=m+1:=⟨j-off-1,by omega⟩
   rw [hm,show j-(off+1)=m by omega,fl]
  ·rw [YE h1]
   rcases qy j off with ⟨hb,he⟩|⟨hb,he⟩
   ·subst he
    simp only [hb]
    rw [YF (by simp),aNx,fl]
   ·simp only [hb]
    rw [YE (by simp;omega)]

theorem wj (cur:Array Value) (vs:List Value) (off:Nat) (h:off+vs.length≤cur.size) (j:Nat):((cur.toList.take off++vs++cur.toList.drop (off+vs.length)).toArray).getD j undef=if off≤j∧j<off+vs.length then vs.getD (j-off) undef else cur.getD j undef:=by
 simp only [ZD,asx,YH]
 have hm:min off cur.size=off:=by omega
 congr 1
 by_cases h1:j<off
 ·rw [jK,YL (by simp;omega),YL (by simp;omega),ZV,YF h1,bdx]
 ·by_cases h2:j<off+vs.length
  ·rw [jP,YL (by simp;omega),YX (by simp;omega)]
   congr 1
   simp [hm]
  ·have h9:(cur.toList.take off++vs).length=off+vs.length:=by simp [hm]
   rw [jK,YX O,afx,bdx,h9,show off+vs.length+(j-(off+vs.length))=j by omega]

theorem K8 {al:List Addr} {St:Nat→Prop} {w:World} {l:List CV} {cs:Array Value} (h:BP al St w l cs) (hl:l.all iS=true):∀ v ∈ cs.toList,v.oneCell'=true:=by
 intro v hv
 obtain ⟨i,hi,e⟩:=aYx.1 hv
 have hi':i<l.length:=by rw [← h.1];simpa using hi
 have h2:=h.2 i hi'
 have hi2:i<cs.size:=by simpa using hi
 have e2:cs.getD i undef=v:=by simp [hi2];simpa using e
 rw [e2] at h2
 refine sl (c:=fl l i) ?_ h2
 rw [dJ]
 have:=Y8.1 hl (l.getD i .top) (by simp [List.getD,hi'])
 exact this

theorem MT {i off n m:Nat} {g:Option Nat} {f:Nat→CV} {c:CV} {l:List CV} (ho:o.op=.store t x y) (hx:s.eval x=.op i g off) (hH:s.H[i]?=some (g,.blk n f)) (hy:s.eval y=c) (hl:fA c=some l) (h5:(P.info? t).map (·.size)=some m) (hm:l.length=m) (hleaf:l.all iS=true) (hn:off+m≤n)
  (F:Nat→CV) (hF:∀ j,j<n→aa (gT f off l j) (F j)) (hd:cq G o=true) (hK:K (s.with o.dst (.c undef) (s.H.set i (g,.blk n F)))):ug P G o s K:=fun St a w hr Q=>by
 obtain ⟨info,hi,h6⟩:=YM.1 h5
 obtain ⟨b,rfl,e⟩:=ji hr hx
 have hc:=ua (ji hr hy) hl
 obtain ⟨fp,hp⟩:=hr.hp
 obtain ⟨h00,cur,ty,hh,hle,hcell⟩:=hp.rep i (some b) _ hH
 have hst:=run_storeCells_at P b off ty (a.eval y).cells.toList 0 cur w hh (by simp [hc.1];omega) (K8 hc hleaf)
 simp only [Zt] at hst
 have hrun:(execOp a.eval o).run P w=.ok .skip (w.setRow b (cur.toList.take off++(a.eval y).cells.toList++cur.toList.drop (off+(a.eval y).cells.toList.length)).toArray):=by
  simp only [execOp,ho,e]
  simp [Instr.storeAt,Instr.sureAddr,storeVar,sizeOf,typeInfo,hi,h6,hc.1,hm]
  rw [show (a.eval y).cells.toList.length=m by simp [hc.1,hm]] at hst
  simp [hst]
 unfold Oper.wp
 rw [hrun]
 have hlen:(a.eval y).cells.toList.length=m:=by simp [hc.1,hm]
 refine ⟨fun q hq=>setRow_other w b q _ (fun e=>(hp.own i b ((h00 b).2 rfl)).2.1 (e ▸ hq)),St,fun _ h=>h,_,hK,?_⟩
 have hw:=hr.write hH hh (cs:=(cur.toList.take off++(a.eval y).cells.toList++cur.toList.drop (off+(a.eval y).cells.toList.length)).toArray) (by simp [hc.1];omega) (n':=n) (f':=F) (by simp [hc.1];omega) (fun j hj=>by
  refine hF j hj _ _ _ _ ?_
  rw [dE,wj cur _ off (by rw [hlen];omega),hlen,hm]
  by_cases h1:off≤j∧j<off+m
  ·rw [YF h1,YF h1]
   have:=hc.2 (j-off) O
   simpa [List.getD] using this
  ·rw [YE h1,YE h1]
   exact hcell j hj)
 have:=hw.put (dst:=o.dst) (v:=.c undef) (x:=undef) (eC hd) rfl
 cases ho:o.dst with
 | none=>rw [ho] at this;exact this
 | some d=>rw [ho] at this;exact this

def Ec (P:Program) (al:List Addr) (St:Nat→Prop) (w:World) (xv:Value) (k m:Nat) (f:Nat→CV):Prop :=
 ∃ cs:List Value,cs.length=m * k∧(∀ j,j<m * k→ba al St w (f j) (cs.getD j undef))∧∀ W,W.heap=w.heap→(Builtin.lenOf xv).run P W=.ok m W∧(Builtin.firstCells k m xv).run P W=.ok cs.toArray W
def uf (P:Program) (G:Gh) (s:AS) (y:Operand) (k m:Nat) (f:Nat→CV):Prop:=∀ St a w,az G St s a w→Ec P G.al St w (a.eval y) k m f

theorem Ke {w W:World} (h:W.heap=w.heap) (p:Addr):W.cell? p=w.cell? p:=by simp [World.cell?,h]
theorem pJ {al:List Addr} {St:Nat→Prop} {w:World} {k m cap:Nat} {f:Nat→CV} {b q:Nat} {g:Nat→Value} (h:∀ j,j<m * k→w.cell? ⟨b,q+j,none⟩=some (g j)∧ba al St w (f j) (g j)):Ec P al St w (.slice (some ⟨b,q,none⟩) m cap) k m f:=by
 refine ⟨(List.range (m * k)).map g,by simp,fun j hj=>by simp [List.getD,hj];exact (h j hj).2,fun W hW=>⟨rfl,?_⟩⟩
 have:=run_loadCells (P:=P) (w:=W) ⟨b,q,none⟩ (m * k) g (fun j hj=>by rw [f9,Ke hW];exact (h j hj).1)
 simpa [Builtin.firstCells] using this
theorem rQ {al:List Addr} {St:Nat→Prop} {w:World} {k cap:Nat} {f:Nat→CV}:Ec P al St w (.slice none 0 cap) k 0 f :=
 ⟨[],by simp,fun j hj=>by simp at hj,fun W _=>⟨rfl,by simp [Builtin.firstCells]⟩⟩
theorem ew {k m:Nat} {f:Nat→Nat→CV} (hy:s.eval y=.rs k m f):uf P G s y k m fun j=>f (j / k) (j % k):=fun St a w h=>by
 obtain ⟨ao,cap,e,h1,h2,h3,h4⟩:=ji h hy
 rw [e]
 cases ao with
 | none =>
  have:=h3 rfl
  have hm:m=0:=by omega
  subst hm
  exact rQ
 | some ad =>
  by_cases h0:m * k=0
  ·refine ⟨[],by simp [h0],fun j hj=>by omega,fun W _=>⟨rfl,?_⟩⟩
   have:=run_loadCells (P:=P) (w:=W) ad 0 (fun _=>undef) (fun j hj=>by omega)
   simp [Builtin.firstCells,h0] at this ⊢
   exact this
  ·have hk:0<k:=bvx fun e=>h0 (by rw [e,bJx])
   have hm:0<m:=bvx fun e=>h0 (by rw [e,ZQ])
   obtain ⟨b,q,sp⟩:=ad
   obtain ⟨h5,h6,h7⟩:=h4 _ rfl hm
   simp only at h5
   subst h5
   obtain ⟨g,hg⟩:=oh (n:=m * k) (p:=fun j v=>w.cell? ⟨b,q+j,none⟩=some v∧ba G.al St w (f (j / k) (j % k)) v) (fun j hj=>by
    obtain ⟨v,hv,hr⟩:=h7 (j / k) (j % k) (bix (by rw [a0x];exact hj)) (Z0 _ hk)
    refine ⟨v,?_,hr⟩
    have h9:=Nat.div_add_mod j k
    rw [a0x] at h9
    have e2:q+j=q+(j / k * k+j % k):=by omega
    rw [e2]
    exact hv)
   exact pJ hg
theorem aW {i off k m N:Nat} {g:Option Nat} {F:Nat→CV} (hy:s.eval y=.os i g off m k) (hH:Holds s i g N F) (hN:off+m * k≤N):uf P G s y k m fun j=>F (off+j):=fun St a w h=>by
 have he:=ji h hy
 cases g with
 | none =>
  obtain ⟨h1,h2⟩:=he
  subst h1
  rw [h2]
  exact rQ
 | some b =>
  obtain ⟨cap,e,_⟩:=he
  rw [e]
  obtain ⟨hg,cur,ty,z,hh,hle,hc⟩:=jJ h hH
  refine pJ (g:=fun j=>cur.getD (off+j) undef) fun j hj=>⟨?_,hc _ O⟩
  have hlt:off+j<cur.size:=by omega
  rw [cell_of_row w b _ cur ty z hh];simp [hlt]
theorem P7 {l:ByteArray} (hy:s.eval y=.c (.string l)):uf P G s y 1 l.size (bc l.data.toList):=fun St a w h=>by
 rw [kM h hy]
 refine ⟨l.data.toList.map fun b=>.int .u8 (b.toNat:Nat),by simp,fun j hj=>?_,fun W _=>⟨rfl,?_⟩⟩
 ·have hj:j<l.data.size:=by simpa using hj
  have e:l.data[j]?=some l.data[j]:=YV hj
  simp [List.getD,e,bc]
  rfl
 ·simp [Builtin.firstCells]
  apply Array.ext'
  simp
def eL (P:Program) (u:TypeId):Bool:=match P.underlying u with|some (.int _)=>false|some _=>true|none=>false
theorem kZ {e ty:TypeId} {info:TypeInfo} {size n m cap:Nat} {base:Option Addr} {xv:Value} {news:List Value} {w:World} (h1:P.underlying t=some (.slice e)) (hu:eL P u=true) (hi:P.info? e=some info) (hs:info.size=size)
  (hl:(Builtin.lenOf xv).run P w=.ok m w) (hn:(Builtin.firstCells size m xv).run P w=.ok news.toArray w) (hroom:n+m≤cap) {w':World} (hst:∀ ad,base=some ad→(storeCells (ad.add (n * size)) news).run P w=.ok () w') (h0:base=none→w'=w) :
  (Builtin.append_ #[t,u] ty #[.slice base n cap,xv]).run P w=.ok (.slice base (n+m) cap) w':=by
 cases hu':P.underlying u with
 | none=>simp [eL,hu'] at hu
 | some d =>
  cases base with
  | none =>
   rw [h0 rfl]
   cases d <;> first|(simp [eL,hu'] at hu;done)|skip
   all_goals simp only [Builtin.append_,asx,ZK,ajx,underlying,Sem.run_bind,run_program,Result.andThen_ok,h1,hu',Sem.run_pure,sizeOf,typeInfo,hi,hs,aOx,if_false,hl,YF hroom,bwx,if_true,hn]
  | some ad =>
   have hst:=hst ad rfl
   cases d <;> first|(simp [eL,hu'] at hu;done)|skip
   all_goals simp only [Builtin.append_,asx,ZK,ajx,underlying,Sem.run_bind,run_program,Result.andThen_ok,h1,hu',Sem.run_pure,sizeOf,typeInfo,hi,hs,aOx,if_false,hl,YF hroom,bwx,if_true,hn,hst]

theorem rW {e ty:TypeId} {info:TypeInfo} {z:Value} {size n m cap:Nat} {base:Option Addr} {xv:Value} {olds news:List Value} {w:World} (h1:P.underlying t=some (.slice e)) (hu:eL P u=true) (hi:P.info? e=some info) (hs:info.size=size) (hz:info.zero=some z)
  (hl:∀ W,W.heap=w.heap→(Builtin.lenOf xv).run P W=.ok m W) (ho:∀ W,W.heap=w.heap→(Builtin.firstCells size n (.slice base n cap)).run P W=.ok olds.toArray W) (hn:∀ W,W.heap=w.heap→(Builtin.firstCells size m xv).run P W=.ok news.toArray W) (hroom:cap<n+m)
  (h63:n+m≤9223372036854775807) (h48:(n+m) * info.bytes≤140737488355328) :
  (Builtin.append_ #[t,u] ty #[.slice base n cap,xv]).run P w=.ok (.slice (some ⟨w.heap.size,0,none⟩) (n+m) (grownCap w (n+m) cap e)) (w.drew.alloc (.cells (olds.toArray++news.toArray++Builtin.zeroCells z.cells (grownCap w (n+m) cap e-(n+m))) e)):=by
 have hnot:¬ (n+m≤cap):=by omega
 have hfit:=growslice_fits hroom h48
 have h63':¬ (9223372036854775807<((n:Int)+(m:Int))):=by omega
 have h48':¬ (281474976710656<Builtin.nextslicecap (n+m) cap * info.bytes):=by omega
 have hl0:=hl w rfl
 have ho1:=ho w.drew rfl
 have hn1:=hn w.drew rfl
 cases hu':P.underlying u with
 | none=>simp [eL,hu'] at hu
 | some d =>
  have h64:¬ (((n+m:Nat):Int)>IntKind.i64.max∧(false=true∨info.bytes=0)):=by simp [IntKind.max,IntKind.bits,IntKind.signed];omega
  have h49:¬ (Builtin.nextslicecap (n+m) cap * info.bytes>2 ^ 48):=by omega
  have hch:(choose (.appendCap (n+m) cap e)).run P w=.ok (grownCap w (n+m) cap e) w.drew:=by simp [Question.forced,grownCap]
  cases d <;> first|(simp [eL,hu'] at hu;done)|skip
  all_goals simp only [Builtin.append_,asx,ZK,ajx,underlying,Sem.run_bind,run_program,Result.andThen_ok,h1,hu',Sem.run_pure,sizeOf,typeInfo,hi,hs,aOx,if_false,hl0,YE hnot,zeroValue,bwx,if_true,newRow]
  all_goals (try (rw [YE (by simp [IntKind.max,IntKind.bits,IntKind.signed];omega)]))
  all_goals (try simp only [Sem.run_bind,run_program,Result.andThen_ok,Sem.run_pure,hi,hz,YE h49,hch,run_askRoom,ho1,hn1,run_newObj,World.alloc_eq,World.size_drew])

theorem Ge (olds news:List Value) (rest:Array Value) (j:Nat) (h:j<olds.length+news.length):(olds.toArray++news.toArray++rest).getD j undef=if j<olds.length then olds.getD j undef else news.getD (j-olds.length) undef:=by
 simp only [ZD,YH]
 rw [ZI (by simp;omega)]
 split
 ·rename_i h1
  rw [ZI (by simpa using h1)]
  simp
 ·rename_i h1
  rw [aox (by simp;omega)]
  simp

def u5 (n:Nat) (f h:Nat→CV) (j:Nat):CV:=if j<n then f j else h (j-n)

theorem dB (w:World) (x:Obj):Below w.heap.size w (w.drew.alloc x):=oo (mA w) (eu w.drew x)

theorem gJ {xs:Array Operand} {ats:Array TypeId} (ho:o.op=.call ⟨.builtin .append,xs,ats⟩) {a:Act} {v:Value} {w w':World} (h:(Builtin.append_ ats o.type (xs.map a.eval)).run P w=.ok v w'):(execOp a.eval o).run P w=.ok (.value v) w':=by
 simp [execOp,ho,resolve,invoke,builtin,h]

theorem zl {e:TypeId} {z:Value} {i n m k N by_:Nat} {g:Option Nat} {f h:Nat→CV} (ho:o.op=.call ⟨.builtin .append,#[x,y],#[t,u]⟩) (hx:s.eval x=.os i g 0 n k) (hH:s.H[i]?=some (g,.blk N f)) (hN:n * k≤N)
  (hsrc:uf P G s y k m h) (h1:P.underlying t=some (.slice e)) (hu:eL P u=true) (h5:(P.info? e).map (·.size)=some k) (hz:(P.info? e).map (·.zero)=some (some z)) (hby:(P.info? e).map (·.bytes)=some by_)
  (h63:n+m≤9223372036854775807) (h48:(n+m) * by_≤140737488355328) (hzk:z.cells.size=k)
  (F:Nat→CV) (hF:∀ j,j<(n+m) * k→aa (u5 (n * k) f h j) (F j)) (hleaf:∀ j,j<m * k→iS (h j)=true) (hd:cq G o=true)
  (hK:∀ g',K (s.with o.dst (.os i g' 0 (n+m) k) (s.H.set i (g',.blk ((n+m) * k) F)))):ug P G o s K:=fun St a w hr Q=>by
 obtain ⟨info,hi,hs⟩:=YM.1 h5
 obtain ⟨info',hi',hz⟩:=YM.1 hz
 obtain rfl:=Y9 (hi.symm.trans hi')
 obtain ⟨info',hi',hby⟩:=YM.1 hby
 obtain rfl:=Y9 (hi.symm.trans hi')
 obtain ⟨news,hnl,hnr,hrun⟩:=hsrc St a w hr
 have he:=ji hr hx
 have hlen:(n+m) * k=n * k+m * k:=adx ..
 -- the value's parts
 obtain ⟨base,cap,ev,hle,hcap,hbase⟩:∃ base cap,a.eval x=.slice base n cap∧n≤cap∧cap≤9223372036854775807∧((g=none∧base=none∧cap=0∧n=0)∨∃ b,g=some b∧base=some ⟨b,0,none⟩∧∃ cur t z,w.heap[b]?=some (.cells cur t z)∧0+cap * k≤cur.size):=by
  cases g with
  | none=>obtain ⟨h1,h2⟩:=he;exact ⟨none,0,by rw [h2,h1],by omega,by omega,.inl ⟨rfl,rfl,rfl,h1⟩⟩
  | some b=>obtain ⟨cap,h1,h2,h3,h4⟩:=he;exact ⟨_,cap,h1,h2,h3,.inr ⟨b,rfl,rfl,h4⟩⟩
 have hargs:(#[x,y]:Array Operand).map a.eval=#[a.eval x,a.eval y]:=by simp
 have put:∀ {w':World} {v:Value} {c:CV} {H:List (Option Nat×bi)},az G St ⟨s.env,s.b,H⟩ a w'→ba G.al St w' c v→az G St (s.with o.dst c H) (a.put o.dst v) w':=fun {w' v c H} h1 h2=>by
  have:=h1.put (dst:=o.dst) (eC hd) h2
  cases ho:o.dst with
  | none=>rw [ho] at this;exact this
  | some d=>rw [ho] at this;exact this
 by_cases hroom:n+m≤cap
 ·-- in place
  rcases hbase with ⟨hg,hb,hc0,hn0⟩|⟨b,hg,hb,cu,tt,zz,hcu,hfit⟩
  ·subst hg hb
   have hm0:m=0:=by omega
   subst hm0
   have hrun':=kZ (t:=t) (u:=u) (ty:=o.type) h1 hu hi hs (hrun w rfl).1 (hrun w rfl).2 hroom (base:=none) (w':=w) (fun _ h=>by simp at h) (fun _=>rfl)
   unfold Oper.wp
   rw [gJ ho (by rw [hargs,ev];exact hrun')]
   refine ⟨eX.refl _ _,St,fun _ h=>h,_,hK none,?_⟩
   have hlt:=(YJ.1 hH).1
   have hmv:az G St ⟨s.env,s.b,s.H.set i (none,.blk ((n+0) * k) F)⟩ a w:=by
    refine ⟨hr.df,hr.sz,hr.env,hr.un,hr.s1,hr.s2,hr.s3,?_,hr.sn,hr.sg⟩
    obtain ⟨fp,hp⟩:=hr.hp
    refine ⟨fp,fun j q r hj=>?_,hp.dis,hp.own,fun j hj=>hp.out j (by simpa using hj)⟩
    by_cases hj2:j=i
    ·subst hj2
     simp [hlt] at hj
     obtain ⟨rfl,rfl⟩:=hj
     exact ⟨by simp [hn0],(hp.rep j none _ hH).2⟩
    ·rw [YZ (Ne.symm hj2)] at hj
     exact hp.rep j q r hj
   exact put hmv ⟨by omega,by rw [hn0,hc0]⟩
  ·subst hg hb
   obtain ⟨fp,hp⟩:=hr.hp
   obtain ⟨hb0,cur,ty,hh,hle2,hcell⟩:=hp.rep i (some b) _ hH
   have hq:=Y9 (hcu.symm.trans hh)
   injection hq with e1 e2 e3
   have hfit:0+cap * k≤cur.size:=e1 ▸ hfit
   have hfit2:n * k+news.length≤cur.size:=by
    rw [hnl,← hlen]
    exact Zd (ZG _ hroom) O
   have hone:∀ v ∈ news,v.oneCell'=true:=fun v hv=>by
    obtain ⟨j,hj,e⟩:=aYx.1 hv
    have h2:=hnr j O
    rw [show news.getD j undef=v by simp [List.getD,hj,e]] at h2
    exact sl (hleaf j O) h2
   have hst:=run_storeCells_at P b (n * k) ty news 0 cur w hh (by simpa using hfit2) hone
   simp only [Zt] at hst
   have hrun':=kZ (t:=t) (u:=u) (ty:=o.type) h1 hu hi hs (hrun w rfl).1 (hrun w rfl).2 hroom (base:=some ⟨b,0,none⟩) (w':=w.setRow b (cur.toList.take (n * k)++news++cur.toList.drop (n * k+news.length)).toArray) (fun ad h=>by
    have h:=Y9 h
    subst h
    rw [f9,Nat.zero_add]
    exact hst) (fun h=>by simp at h)
   unfold Oper.wp
   rw [gJ ho (by rw [hargs,ev];exact hrun')]
   refine ⟨fun q hq=>setRow_other w b q _ (fun e=>(hp.own i b ((hb0 b).2 rfl)).2.1 (e ▸ hq)),St,fun _ h=>h,_,hK (some b),?_⟩
   have hw:=hr.write hH hh (cs:=(cur.toList.take (n * k)++news++cur.toList.drop (n * k+news.length)).toArray) (by simp;omega) (n':=(n+m) * k) (f':=F) (by simp;omega) (fun j hj=>by
    refine hF j hj _ _ _ _ ?_
    rw [wj cur news (n * k) hfit2]
    unfold u5
    by_cases h3:j<n * k
    ·rw [YF h3,jK];exact hcell j O
    ·rw [YE h3,jP];exact hnr _ O)
   refine put hw ⟨cap,rfl,hroom,hcap,?_⟩
   exact ⟨_,_,_,setRow_heap w b cur _ _ _ hh,by simp;omega⟩
 ·-- a new row
  have hroom:cap<n+m:=by omega
  obtain ⟨olds,hol,hor,horun⟩:Ec P G.al St w (.slice base n cap) k n f:=by
   rcases hbase with ⟨hg,hb,hc0,hn0⟩|⟨b,hg,hb,_⟩
   ·subst hb hn0 hc0;exact rQ
   ·subst hg hb
    obtain ⟨_,cur,tt,zz,hh,hle,hc⟩:=xE hr hH
    refine pJ (g:=fun j=>cur.getD j undef) fun j hj=>⟨?_,hc j O⟩
    have hlt:j<cur.size:=by omega
    rw [Nat.zero_add,cell_of_row w b j cur tt zz hh];simp [hlt]
  have hrun':=rW (t:=t) (u:=u) (ty:=o.type) h1 hu hi hs hz (fun W hW=>(hrun W hW).1) (fun W hW=>(horun W hW).2) (fun W hW=>(hrun W hW).2) hroom h63 (by rw [hby];exact h48)
  unfold Oper.wp
  rw [gJ ho (by rw [hargs,ev];exact hrun')]
  refine ⟨iq hr (dB w _),St,fun _ h=>h,_,hK (some w.heap.size),?_⟩
  have hgc:n+m≤grownCap w (n+m) cap e∧grownCap w (n+m) cap e≤9223372036854775807:=by
   have hlt:=Z0 (w.tape w.drawn (.appendCap (n+m) cap e)) (show 0<2 ^ 63-(n+m) by omega)
   simp only [grownCap,Question.cut]
   omega
  have hcell0:(w.drew.alloc (.cells (olds.toArray++news.toArray++Builtin.zeroCells z.cells (grownCap w (n+m) cap e-(n+m))) e)).heap[w.heap.size]?=some (.cells (olds.toArray++news.toArray++Builtin.zeroCells z.cells (grownCap w (n+m) cap e-(n+m))) e (0,0)):=heap_alloc_new w.drew _
  have hsize:(olds.toArray++news.toArray++Builtin.zeroCells z.cells (grownCap w (n+m) cap e-(n+m))).size=grownCap w (n+m) cap e * k:=by
   simp [Builtin.zeroCells,hol,hnl,hzk]
   rw [← adx,← adx]
   congr 1
   omega
  have hEvo:qS St w (w.drew.alloc (.cells (olds.toArray++news.toArray++Builtin.zeroCells z.cells (grownCap w (n+m) cap e-(n+m))) e)):=qS.of_below (dB w _) hr.s3
  have hfr:=hr.fresh (dB w _) (YG _) hcell0 (n:=(n+m) * k) (f:=F) (by rw [hsize];exact ZG _ hgc.1) (fun j hj=>by
   refine hF j hj _ _ _ _ (ba.evo hEvo (fun _ x=>x) _ _ ?_)
   unfold u5
   rw [Ge olds news _ j O,hol]
   by_cases h3:j<n * k
   ·rw [YF h3,YF h3];exact hor j h3
   ·rw [YE h3,YE h3];exact hnr (j-n * k) O)
  have hkl:=hfr.move ((YJ.1 hH).1)
  refine put hkl ⟨_,rfl,hgc.1,hgc.2,_,_,_,hcell0,?_⟩
  rw [hsize]
  omega
end
end Am
end Go.Proofs.YtghminnpfnkbjaaGreatDoor
