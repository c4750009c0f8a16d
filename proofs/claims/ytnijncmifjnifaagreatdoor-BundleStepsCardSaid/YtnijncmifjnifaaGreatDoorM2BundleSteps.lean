/- What the law leans on, part 2 -/
import Derived.Test.YtnijncmifjnifaaGreatDoorM1BundleSteps
set_option maxRecDepth 100000
set_option maxHeartbeats 8000000
namespace Go.Proofs.YtnijncmifjnifaaGreatDoor
set_option linter.unusedVariables false
namespace Am
open Go.RowKit
section
variable {P:Program} {G:Gh} {ops:Array Oper} {o:Oper} {s:AS} {r:List Oper} {K:AS→Prop}
def aj (G:Gh) (ops:Array Oper) (o:Oper) (s:AS) (b:Bool):Prop:=∀ St a w,ab G St s a w→Region.wanted o (yielded ops a.tmps)=b
theorem aA (h:o.guard=none):aj G ops o s true:=fun _ _ _ _=>by simp [Region.wanted,h]
theorem aV {j d:Nat} {b t:Bool} (h:o.guard=some (j,b)) (hd:(ops[j]?).bind (·.dst)=some d) (hN:Nat.blt d G.N=true) (hl:look s.env s.b d=.c (.bool t)) (u:Bool) (hu:(t == b)=u):aj G ops o s u:=fun St a w hr=>by
 have hlt:d<a.tmps.size:=by rw [hr.sz];exact FS hN
 have he:=hr.env d
 rw [hl] at he
 have he:a.tmps.getD d undef=.bool t:=he
 have hg:a.tmps[d]?=some (.bool t):=by
  rw [FP hlt,← he]
  simp [hlt]
 simp only [Region.wanted,h,yielded,hd,Option.bind_some,hg]
 rw [← hu]
 cases t<;>cases b<;>rfl
def aN (P:Program) (G:Gh) (o:Oper) (s:AS) (v:CV):Prop:=∀ St a w,ab G St s a w→∃ x,(∀ W,cE St w W→(execOp a.eval o).run P W=.ok (.value x) W)∧ai G.al St w v x
def gi (P:Program) (G:Gh) (o:Oper) (s:AS) (v:CV):Prop:=∀ St a w,ab G St s a w→∃ x,(∀ W,Below w.heap.size w W→(execOp a.eval o).run P W=.ok (.value x) W)∧ai G.al St w v x
theorem dK {St:Nat→Prop} {a:Act} {w W:World} (h:ab G St s a w) (hW:Below w.heap.size w W):cE St w W:=fun b hb=>hW.block b (h.s3 b hb)
theorem aN.own {v:CV} (h:aN P G o s v):gi P G o s v:=fun St a w hr=>by
 have ⟨x,h1,h2⟩:=h St a w hr
 exact ⟨x,fun W hW=>h1 W (dK hr hW),h2⟩
def eG (P:Program) (G:Gh) (o:Oper) (s:AS) (K:AS→Prop):Prop:=∀ St a w,ab G St s a w→∀ Q,o.wp P a w (fun a' w'=>Below w.heap.size w w'∧∃ St',(∀ b,St b→St' b)∧∃ s',K s'∧ab G St' s' a' w') Q
def kE (P:Program) (G:Gh) (o:Oper) (s:AS) (K:AS→Prop):Prop:=∀ St a w,ab G St s a w→∀ Q,o.wp P a w (fun a' w'=>cE St w w'∧∃ St',(∀ b,St b→St' b)∧∃ s',K s'∧ab G St' s' a' w') Q
def Et (G:Gh) (P:Program) (o:Oper) (a:Act) (w:World) (K:Act→World→Prop) (Q:Exit→Act→World→Prop):Prop:=o.wp P a w K Q∨(G.yl=true∧o.wpIn (xf G.rd) 0 P a w K Q)
def f7 (G:Gh) (P:Program) (ops:Array Oper) (Q:Exit→Act→World→Prop):List Oper→Act→World→Prop
 | [],a,w=>Q .normal a w
 | o::r,a,w=>if Region.wanted o (yielded ops a.tmps) then Et G P o a w (f7 G P ops Q r) Q else f7 G P ops Q r (a.put o.dst undef) w
theorem d8 {Q:Exit→Act→World→Prop} (hy:G.yl=false):∀ (l:List Nat) (a:Act) (w:World),f7 G P ops Q (l.filterMap (ops[·]?)) a w→wpOps P ops Q l a w
 | [],_,_,h=>h
 | i::l,a,w,h=>by
  unfold wpOps
  cases hi:ops[i]? with
  | none =>
   simp only [GU,hi] at h ⊢
   exact d8 hy l a w h
  | some o =>
   simp only [GU,hi,f7] at h ⊢
   split
   ·rename_i hw
    rw [FO hw] at h
    rcases h with h|h
    exact .inl (Oper.wp_mono (fun a' w' h'=>d8 hy l a' w' h') h)
    ·rw [hy] at h;cases h.1
   ·rename_i hw
    rw [FN hw] at h
    exact d8 hy l _ w h
theorem ci {Q:Exit→Act→World→Prop} (hd:sl G.rd ops=true):∀ (l:List Nat) (a:Act) (w:World),f7 G P ops Q (l.filterMap (ops[·]?)) a w→wpOpsIn (xf G.rd) 0 P ops Q l a w
 | [],_,_,h=>h
 | i::l,a,w,h=>by
  unfold wpOpsIn
  cases hi:ops[i]? with
  | none =>
   simp only [GU,hi] at h ⊢
   exact ci hd l a w h
  | some o =>
   simp only [GU,hi,f7] at h ⊢
   split
   ·rename_i hw
    rw [FO hw] at h
    rcases h with h|h
    exact Oper.wp_in (vV hd hi) (Oper.wp_mono (fun a' w' h'=>ci hd l a' w' h') h)
    exact Oper.wpIn_mono (fun a' w' h'=>ci hd l a' w' h') h.2
   ·rename_i hw
    rw [FN hw] at h
    exact ⟨fun f _=>trivial,ci hd l _ w h⟩
theorem f9 (ops:Array Oper):(List.range ops.size).filterMap (ops[·]?)=ops.toList:=by
 apply List.ext_getElem?
 intro i
 have h:∀ (l:List Nat),(∀ x ∈ l,x<ops.size)→l.filterMap (ops[·]?)=l.map fun x=>ops.getD x default:=by
  intro l hl
  induction l with
  | nil=>rfl
  | cons x l ih =>
   have I:=hl x (F2 ..)
   simp only [GU,Gf,FP I]
   rw [ih fun y hy=>hl y (F9 _ hy)]
   simp [I]
 rw [h _ (fun x I=>GD.1 I)]
 by_cases hi:i<ops.size
 ·simp [hi]
 ·simp [hi]
def bm (P:Program) (G:Gh) (ops:Array Oper) (l:List Oper) (s:AS) (K:AS→Prop):Prop :=
 ∀ a w,nX G s a w→∀ Q:Exit→Act→World→Prop,(∀ s' a' w',K s'→nX G s' a' w'→Q .normal a' w')→f7 G P ops Q l a w
def aJ (G:Gh) (o:Oper):Bool:=match o.dst with|some d=>Nat.blt d G.N|none=>true
theorem bA (h:aJ G o=true):∀ d,o.dst=some d→d<G.N:=fun d hd=>by
 simp only [aJ,hd] at h
 exact FS h
theorem jN (h:K s):bm P G ops [] s K:=fun _ _ hr _ hQ=>hQ _ _ _ h hr
theorem sc {v:CV} (hw:aj G ops o s true) (hd:aJ G o=true) (h:gi P G o s v) (hk:bm P G ops r (s.put o.dst v) K):bm P G ops (o::r) s K:=fun a w ⟨St,hr⟩ Q hQ=>by
 unfold f7
 rw [FO (hw St a w hr)]
 refine .inl ?_
 have ⟨x,I,hv⟩:=h St a w hr
 unfold Oper.wp
 rw [I w (Below.refl _ _)]
 exact hk _ _ ⟨St,hr.put (bA hd) hv⟩ Q hQ
theorem Bq {v:CV} (hw:aj G ops o s true) (hd:aJ G o=true) (h:aN P G o s v) (hk:bm P G ops r (s.put o.dst v) K):bm P G ops (o::r) s K:=sc hw hd h.own hk
theorem vu (hw:aj G ops o s false) (hd:aJ G o=true) (hk:bm P G ops r (s.put o.dst (.c undef)) K):bm P G ops (o::r) s K:=fun a w ⟨St,hr⟩ Q hQ=>by
 unfold f7
 rw [FN (by rw [hw St a w hr];exact Bool.false_ne_true)]
 exact hk _ _ ⟨St,hr.put (v:=.c undef) (bA hd) rfl⟩ Q hQ
theorem Br (hw:aj G ops o s true) (h:eG P G o s (fun s'=>bm P G ops r s' K)):bm P G ops (o::r) s K:=fun a w hr Q hQ=>by
 unfold f7
 have ⟨St,hs⟩:=id hr
 rw [FO (hw St a w hs)]
 exact .inl (Oper.wp_mono (fun a' w' ⟨_,St',_,s',h1,h2⟩=>h1 a' w' ⟨St',h2⟩ Q hQ) (h St a w hs Q))
theorem vw (hw:aj G ops o s true) (h:kE P G o s (fun s'=>bm P G ops r s' K)):bm P G ops (o::r) s K:=fun a w hr Q hQ=>by
 unfold f7
 have ⟨St,hs⟩:=id hr
 rw [FO (hw St a w hs)]
 exact .inl (Oper.wp_mono (fun a' w' ⟨_,St',_,s',h1,h2⟩=>h1 a' w' ⟨St',h2⟩ Q hQ) (h St a w hs Q))
theorem eG.md (h:eG P G o s K):kE P G o s K:=fun St a w hr Q=>Oper.wp_mono (fun _ _ h=>⟨dK hr h.1,h.2⟩) (h St a w hr Q)
def AX (P:Program) (G:Gh) (ops:Array Oper) (t:bu) (s:AS) (K:AS→Prop):Prop :=
 ∀ a w,nX G s a w→∀ (Q:Exit→Act→World→Prop) (R:Act→World→Prop),(∀ s' a' w',K s'→nX G s' a' w'→R a' w')→ff P ops Q R t a w
theorem Bf (h:K s):AX P G ops .done s K:=fun _ _ hr _ _ hQ n=>hQ _ _ _ h (hr.ext n.below)
theorem Ay {t:bu} {v:CV} (hw:aj G ops o s true) (hd:aJ G o=true) (h:gi P G o s v) (hk:AX P G ops t (s.put o.dst v) K):AX P G ops (.rd o t) s K:=fun a w ⟨St,hr⟩ Q R hQ=>by
 have ⟨x,I,hv⟩:=h St a w hr
 exact ⟨x,.inl ⟨hw St a w hr,fun W hW=>I W hW⟩,hk _ _ ⟨St,hr.put (bA hd) hv⟩ Q R hQ⟩
theorem Em {t:bu} {v:CV} (hw:aj G ops o s true) (hd:aJ G o=true) (h:aN P G o s v) (hk:AX P G ops t (s.put o.dst v) K):AX P G ops (.rd o t) s K:=Ay hw hd h.own hk
theorem Be {t:bu} (hw:aj G ops o s false) (hd:aJ G o=true) (hk:AX P G ops t (s.put o.dst (.c undef)) K):AX P G ops (.rd o t) s K:=fun a w ⟨St,hr⟩ Q R hQ =>
 ⟨undef,.inr ⟨hw St a w hr,rfl⟩,hk _ _ ⟨St,hr.put (v:=.c undef) (bA hd) rfl⟩ Q R hQ⟩
theorem C4 {t:bu} (hw:aj G ops o s true) (h:eG P G o s (fun s'=>AX P G ops t s' K)):AX P G ops (.one o t) s K:=fun a w hr Q R hQ n=>by
 have ⟨St,hs⟩:=id hr
 rw [FO (hw St a w hs)]
 exact Oper.wp_mono (fun a' w' ⟨hb,St',_,s',h1,h2⟩=>⟨hb,h1 a' w' ⟨St',h2⟩ Q R hQ⟩) (h St a n.w (hs.ext n.below) Q)
theorem yo {t:bu} (hw:aj G ops o s false) (hd:aJ G o=true) (hk:AX P G ops t (s.put o.dst (.c undef)) K):AX P G ops (.one o t) s K:=fun a w ⟨St,hr⟩ Q R hQ n=>by
 rw [FN (by rw [hw St a w hr];exact Bool.false_ne_true)]
 exact hk _ _ ⟨St,hr.put (v:=.c undef) (bA hd) rfl⟩ Q R hQ
theorem C3 {p:Oper} {t u:bu} (h1:AX P G ops (.one o t) s K) (h2:AX P G ops (.one p u) s K):AX P G ops (.two o t p u) s K:=fun a w hr Q R hQ=>⟨h1 a w hr Q R hQ,h2 a w hr Q R hQ⟩
def AZ (P:Program) (G:Gh) (ops:Array Oper) (t:bu) (s:AS) (K:AS→Prop):Prop :=
 ∀ St a w,ab G St s a w→∀ Q:Exit→Act→World→Prop,(∀ s' a' w',K s'→nX G s' a' w'→Q .normal a' w')→∃ St',(∀ b,St b→St' b)∧eH P ops Q St' t a w
theorem Bb (h:K s):AZ P G ops .done s K:=fun St _ _ hr _ hQ=>⟨St,fun _ h=>h,hQ _ _ _ h ⟨_,hr⟩⟩
theorem Ej {t:bu} {v:CV} (hw:aj G ops o s true) (hd:aJ G o=true) (h:aN P G o s v) (hk:AZ P G ops t (s.put o.dst v) K):AZ P G ops (.rd o t) s K:=fun St a w hr Q hQ=>by
 have ⟨x,I,hv⟩:=h St a w hr
 obtain ⟨St',hs,h2⟩:=hk _ _ _ (hr.put (bA hd) hv) Q hQ
 exact ⟨St',hs,x,.inl (dq.grow hs (.inl ⟨hw St a w hr,fun W hW=>I W hW⟩)),h2⟩
theorem CZ {t:bu} {v:CV} (hw:aj G ops o s true) (hd:aJ G o=true) (hb:y6 ops o=true) (h:gi P G o s v) (hk:AZ P G ops t (s.put o.dst v) K):AZ P G ops (.rd o t) s K:=fun St a w hr Q hQ=>by
 have ⟨x,I,hv⟩:=h St a w hr
 obtain ⟨St',hs,h2⟩:=hk _ _ _ (hr.put (bA hd) hv) Q hQ
 exact ⟨St',hs,x,.inr ⟨hb,.inl ⟨hw St a w hr,fun W hW=>I W hW⟩⟩,h2⟩
theorem Ba {t:bu} (hw:aj G ops o s false) (hd:aJ G o=true) (hk:AZ P G ops t (s.put o.dst (.c undef)) K):AZ P G ops (.rd o t) s K:=fun St a w hr Q hQ=>by
 obtain ⟨St',hs,h2⟩:=hk _ _ _ (hr.put (v:=.c undef) (bA hd) rfl) Q hQ
 exact ⟨St',hs,undef,.inl (.inr ⟨hw St a w hr,rfl⟩),h2⟩
theorem Ek {t:bu} (hw:aj G ops o s true) (hm:nz o=true) (h:kE P G o s (fun s'=>AZ P G ops t s' K)):AZ P G ops (.one o t) s K:=fun St a w hr Q hQ=>by
 refine ⟨St,fun _ h=>h,?_⟩
 unfold eH
 rw [FO (hw St a w hr)]
 refine Oper.wp_mono (fun a' w' ⟨hb,St',hs,s',h1,h2⟩=>?_) (h St a w hr Q)
 have ⟨St2,hs2,h3⟩:=h1 St' a' w' h2 Q hQ
 exact ⟨⟨hb,fun h=>by rw [H6,hm] at h;cases h⟩,St2,fun b hb=>hs2 b (hs b hb),h3⟩
theorem C0 {t:bu} (hw:aj G ops o s true) (h:eG P G o s (fun s'=>AZ P G ops t s' K)):AZ P G ops (.one o t) s K:=fun St a w hr Q hQ=>by
 refine ⟨St,fun _ h=>h,?_⟩
 unfold eH
 rw [FO (hw St a w hr)]
 refine Oper.wp_mono (fun a' w' ⟨hb,St',hs,s',h1,h2⟩=>?_) (h St a w hr Q)
 have ⟨St2,hs2,h3⟩:=h1 St' a' w' h2 Q hQ
 exact ⟨⟨dK hr hb,fun _=>hb⟩,St2,fun b hb=>hs2 b (hs b hb),h3⟩
theorem yg {t:bu} {v:CV} (hw:aj G ops o s true) (hd:aJ G o=true) (h:gi P G o s v) (hk:AZ P G ops t (s.put o.dst v) K):AZ P G ops (.one o t) s K :=
 C0 hw fun St a w hr Q=>by
  have ⟨x,I,hv⟩:=h St a w hr
  unfold Oper.wp
  rw [I w (Below.refl _ _)]
  exact ⟨Below.refl _ _,St,fun _ h=>h,_,hk,hr.put (bA hd) hv⟩
theorem CY {p:Oper} {t u:bu} (h1:AZ P G ops (.one o t) s K) (h2:AZ P G ops (.one p u) s K):AZ P G ops (.two o t p u) s K:=fun St a w hr Q hQ=>by
 have ⟨S1,hs1,h3⟩:=h1 St a w hr Q hQ
 have ⟨S2,hs2,h4⟩:=h2 St a w hr Q hQ
 have h3:=lx hs1 h3
 have h4:=lx hs2 h4
 unfold eH at h3 h4
 exact ⟨St,fun _ h=>h,h3,h4⟩
def ap (P:Program) (G:Gh) (c:Code) (s:AS) (R:Exit→AS→Prop):Prop :=
 ∀ a w,nX G s a w→∀ Q:Exit→Act→World→Prop,(∀ e s' a' w',R e s'→nX G s' a' w'→Q e a' w')→c.wpIn (xf G.rd) 0 P Q a w
def iY (Y:AS→Prop) (R:Exit→AS→Prop):Exit→AS→Prop
 | .normal,s=>Y s
 | e,s=>R e s
def f1 (id:Nat) (R:Exit→AS→Prop):Exit→AS→Prop
 | .exit j,s=>match Nat.beq j id with|true=>R .normal s|false=>R (.exit j) s
 | e,s=>R e s
variable {R:Exit→AS→Prop} {x y c:Code}
theorem kQ {id:Nat} (h:bm P G ops ops.toList s (R .normal)) (hd:sl G.rd ops=true:=by rfl):ap P G (.region id ops false) s R:=fun a w hr Q hQ =>
 wpIn_region (ci hd _ a w (by rw [f9];exact h a w hr Q (hQ .normal)))
theorem uO {id:Nat} (t:d7) (hm:P.follows .mixedOrders=true) (hs:Region.noSelect ops=true) (hl:t.len=ops.size) (hin:t.within ops.size=true)
  (hB:bc .any ops t (Array.replicate ops.size false)=true) (h:AX P G ops (ac ops t) s (R .normal)) (hd:sl G.rd ops=true:=by rfl):ap P G (.region id ops true) s R:=fun a w hr Q hQ =>
 ly hd hm (D7 t hs hl hin hB (a8 _ _ _ (h a w hr _ _ (fun s' a' w' h1 h2=>NoPanic.normal (hQ .normal s' a' w' h1 h2)))))
theorem rf (ops:Array Oper) (m:Nat) (hm:m≤ops.size):((List.range (ops.size-m)).map (m+·)).filterMap (ops[·]?)=ops.toList.drop m:=by
 rw [← f9,show List.range ops.size=List.range m++(List.range (ops.size-m)).map (m+·) by
  conv=>lhs;rw [show ops.size=m+(ops.size-m) by omega,List.range_add]]
 rw [List.filterMap_append]
 have e:((List.range m).filterMap (ops[·]?)).length=m:=by
  have h:∀ l:List Nat,(∀ x ∈ l,x<ops.size)→(l.filterMap (ops[·]?)).length=l.length:=by
   intro l hl
   induction l with
   | nil=>rfl
   | cons x l ih =>
    simp only [GU,FP (hl x (F2 ..)),List.length_cons]
    rw [ih fun y hy=>hl y (F9 _ hy)]
  rw [h _ (fun x I=>by have:=GD.1 I;omega),List.length_range]
 rw [List.drop_left' e]
theorem rL {id:Nat} (m:Nat) (t:d7) (hmix:P.follows .mixedOrders=true) (hs:Region.noSelect ops=true) (hm:Nat.ble m ops.size=true) (hl:t.len=m) (hin:t.within ops.size=true) (hc:fX .any ops m=true)
  (hB:bJ .any ops m t (Array.replicate ops.size false)=true) (ht:lG .any ops (ops.size-m) m (mT m ops.size)=true)
  (h:AX P G ops (ac ops t) s (fun s'=>bm P G ops (ops.toList.drop m) s' (R .normal))) (hd:sl G.rd ops=true:=by rfl) (hy:G.yl=false:=by rfl):ap P G (.region id ops true) s R:=fun a w hr Q hQ =>
 ly hd hmix (CJ m t hs hm hl hin hc hB ht (h a w hr _ _ (fun s' a' w' h1 h2=>d8 hy _ a' w' (by
  rw [rf ops m (FS hm)]
  exact h1 a' w' h2 _ (fun s'' a'' w'' h3 h4=>NoPanic.normal (hQ .normal s'' a'' w'' h3 h4))))))
theorem rK {id:Nat} (u:d7) (hmix:P.follows .mixedOrders=true) (hs:Region.noSelect ops=true) (hul:u.len=ops.size) (huin:u.within ops.size=true) (hu:bc .any ops u (Array.replicate ops.size false)=true)
  (h:AZ P G ops (ac ops u) s (R .normal)) (hd:sl G.rd ops=true:=by rfl):ap P G (.region id ops true) s R:=fun a w ⟨St,hr⟩ Q hQ =>
 let ⟨St',_,h5⟩:=h St a w.drew (hr.ext (eN w)) (NoPanic (nY Q)) (fun s'' a'' w'' h3 h4=>NoPanic.normal (hQ .normal s'' a'' w'' h3 h4))
 ly hd hmix (D8 (S:=St') u hs hul huin hu h5)
theorem mh (h:ap P G x s (iY (fun s'=>ap P G y s' R) R)):ap P G (.seq x y) s R:=fun a w hr Q hQ =>
 wpIn_seq (h a w hr _ (fun e s' a' w' h1 h2=>by
  cases e with
  | normal=>exact h1 a' w' h2 Q hQ
  | _=>exact hQ _ s' a' w' h1 h2))
theorem ku {d:Operand} {t:Bool} (hl:s.eval d=.c (.bool t)) (ht:t=true→ap P G x s R) (hf:t=false→ap P G y s R):ap P G (.cond d x y) s R:=fun a w hr Q hQ=>by
 have ⟨St,hs⟩:=id hr
 have he:=hs.eval d
 rw [hl] at he
 have he:a.eval d=.bool t:=he
 exact wpIn_cond_split he (fun h=>ht h a w hr Q hQ) (fun h=>hf h a w hr Q hQ)
theorem jB {id:Nat} (h:ap P G c s (f1 id R)):ap P G (.block id c) s R:=fun a w hr Q hQ =>
 wpIn_block (h a w hr _ (fun e s' a' w' h1 h2=>by
  cases e with
  | exit j =>
   show if j=id then _ else _
   rcases ik j id with ⟨hb,hj⟩|⟨hb,hj⟩
   ·rw [FO hj]
    simp only [f1,hb] at h1
    exact hQ .normal s' a' w' h1 h2
   ·rw [FN hj]
    simp only [f1,hb] at h1
    exact hQ _ s' a' w' h1 h2
  | _=>exact hQ _ s' a' w' h1 h2))
theorem jX {id:Nat} (h:R (.exit id) s):ap P G (.exit id) s R:=fun a w hr _ hQ=>wpIn_exit (hQ _ s a w h hr)
theorem jR (h:R .ret s):ap P G .ret s R:=fun a w hr _ hQ=>wpIn_ret (hQ _ s a w h hr)
theorem jS (h:R .normal s):ap P G .skip s R:=fun a w hr _ hQ=>wpIn_skip (hQ _ s a w h hr)
def aZ (G:Gh) (s s':AS):Prop:=∀ St a w,ab G St s a w→∃ St',(∀ b,St b→St' b)∧ab G St' s' a w
theorem aZ.rel {s s':AS} (h:aZ G s s') {a:Act} {w:World} (hr:nX G s a w):nX G s' a w:=let ⟨St,hr⟩:=hr;let ⟨St',_,h2⟩:=h St a w hr;⟨St',h2⟩
theorem aZ.refl (s:AS):aZ G s s:=fun St _ _ h=>⟨St,fun _ h=>h,h⟩
theorem zN {env env':List (Nat×CV)} {b b':Nat→CV} {H H':List (Option Nat×av)} (he:∀ d,J (look env b d) (look env' b' d)) (l:List Nat) (hl:l.Nodup) (hH:d3 H l=H'):aZ G ⟨env,b,H⟩ ⟨env',b',H'⟩:=fun St _ _ h=>by
 have h1:=h.ent he
 exact ⟨St,fun _ h=>h,h1.df,h1.sz,h1.env,h1.un,h1.s1,h1.s2,h1.s3,h1.hp.pick l hl hH,h1.sn,h1.sg⟩
theorem aZ.trans {s s' s'':AS} (h:aZ G s s') (k:aZ G s' s''):aZ G s s'':=fun St a w hr=>let ⟨S1,h1,h2⟩:=h St a w hr;let ⟨S2,h3,h4⟩:=k S1 a w h2;⟨S2,fun b hb=>h3 b (h1 b hb),h4⟩
theorem sS {env:List (Nat×CV)} {b:Nat→CV} {H H':List (Option Nat×av)} (h:ar H H'):aZ G ⟨env,b,H⟩ ⟨env,b,H'⟩:=fun St _ _ hr=>⟨St,fun _ h=>h,hr.df,hr.sz,hr.env,hr.un,hr.s1,hr.s2,hr.s3,hr.hp.hent h,hr.sn,hr.sg⟩
theorem jE {s':AS} (he:aZ G s s') (h:ap P G c s' R):ap P G c s R:=fun a w hr Q hQ=>h a w (he.rel hr) Q hQ
theorem nQ {R':Exit→AS→Prop} (h:ap P G c s R') (hR:∀ e s,R' e s→R e s):ap P G c s R:=fun a w hr Q hQ=>h a w hr Q (fun e s' a' w' h1 h2=>hQ e s' a' w' (hR e s' h1) h2)
theorem uN {α:Type} (S:α→AS) (φ:α→Prop) (μ:α→Nat) (p0:α) (h0:φ p0) (he:aZ G s (S p0))
  (hr:∀ p,φ p→ap P G c (S p) (iY (fun s'=>∃ p',φ p'∧μ p'<μ p∧aZ G s' (S p')) R)):ap P G (.loop c) s R:=by
 intro a w hrel Q hQ b k cs hro hb hroom
 have key:∀ n p a w,μ p=n→φ p→nX G (S p) a w→∃ e a' w',Q e a' w'∧ArrivesIn (Machine.fenced P (xf G.rd)) P (lone (b.atR a (.code c::.inLoop c::k)) cs w) b k cs e a' w':=by
  intro n
  induction n using Nat.strongRecOn with
  | _ n ih =>
   intro p a w hn hp hrel
   have hwp:=hr p hp a w hrel (Exit.then (fun a' w'=>∃ p',φ p'∧μ p'<μ p∧nX G (S p') a' w') Q) (fun e s' a' w' h1 h2=>by
    cases e with
    | normal =>
     have ⟨p',h3,h4,h5⟩:=h1
     exact ⟨p',h3,h4,h5.rel h2⟩
    | _=>exact hQ _ s' a' w' h1 h2)
   obtain ⟨e,a₁,w₁,hq,harr⟩:=hwp b (.inLoop c::k) cs hro hb hroom
   cases e with
   | normal =>
    have ⟨p',hp',hlt,hrel'⟩:=hq
    obtain ⟨e₂,a₂,w₂,hq₂,harr₂⟩:=ih (μ p') (hn ▸ hlt) p' a₁ w₁ rfl hp' hrel'
    exact ⟨e₂,a₂,w₂,hq₂,.of_steps (StepsIn.trans harr (.one (fenced_calm hb hroom rfl) stepR_inLoop)) harr₂⟩
   | exit id=>exact ⟨_,a₁,w₁,hq,.pass (x:=.inLoop c) rfl (fun _ _=>.inl (by simp)) harr⟩
   | goto l=>exact ⟨_,a₁,w₁,hq,.pass (x:=.inLoop c) rfl (fun _ _=>.inl (by simp)) harr⟩
   | ret=>exact ⟨_,a₁,w₁,hq,.pass (x:=.inLoop c) rfl (fun _ _=>.inl (by simp)) harr⟩
   | panic ch=>exact ⟨_,a₁,w₁,hq,.pass (x:=.inLoop c) rfl (fun _ _=>.inl (by simp)) harr⟩
   | outgrown=>exact ⟨_,a₁,w₁,hq,.pass (x:=.inLoop c) rfl (fun _ _=>.inl (by simp)) harr⟩
 obtain ⟨e,a',w',hq,harr⟩:=key _ p0 a w rfl h0 (he.rel hrel)
 exact ⟨e,a',w',hq,.of_steps (.one (fenced_calm hb hroom rfl) stepR_loop) harr⟩
def kN (D:List Nat) (env:List (Nat×CV)) (b:Nat→CV) (d:Nat):CV:=match D.any (Nat.beq d) with|true=>.top|false=>look env b d
theorem dO (n:Nat):(List.range n).Nodup:=List.nodup_range
theorem dP (H:List (Option Nat×av)) (n:Nat) (hn:n≤H.length):d3 H (List.range n)=H.take n:=by
 apply List.ext_getElem?
 intro i
 simp only [d3,GQ]
 by_cases hi:i<n
 ·rw [List.getElem?_range hi]
  have:i<H.length:=by omega
  simp [hi,this]
 ·rw [GL (by simp;omega)]
  simp [Hj,hi]
inductive n9 (D:List Nat) (b0:Nat→CV):(Nat→CV)→Prop
 | refl:n9 D b0 b0
 | nest {D2:List Nat} {env2:List (Nat×CV)} {b2:Nat→CV}:n9 D b0 b2→(D2.all fun d=>D.any (Nat.beq d))=true→(env2.all fun x=>D.any (Nat.beq x.1))=true→n9 D b0 (kN D2 env2 b2)
theorem gZ {D:List Nat}:∀ {l:List (Nat×CV)} (b:Nat→CV) (d:Nat),(l.all fun x=>D.any (Nat.beq x.1))=true→D.any (Nat.beq d)=false→look l b d=b d
 | [],_,_,_,_=>rfl
 |(e,v)::r,b,d,h,hd=>by
  simp only [Ha,FK] at h
  have hne:e≠d:=fun x=>by rw [x,hd] at h;exact absurd h.1 Bool.noConfusion
  rw [aQ _ _ _ hne]
  exact gZ b d h.2 hd
theorem n9.ent {D:List Nat} {b0 b':Nat→CV} (h:n9 D b0 b') (ht:∀ d,D.any (Nat.beq d)=true→b0 d=.top):∀ d,J (b' d) (b0 d):=by
 induction h with
 | refl=>exact fun d=>cZ
 | @nest D2 env2 b2 h1 h2 h3 ih =>
  intro d
  cases hd:D.any (Nat.beq d) with
  | true=>rw [ht d hd];exact J.top _
  | false =>
   have hD:D2.any (Nat.beq d)=false:=by
    cases h4:D2.any (Nat.beq d) with
    | false=>rfl
    | true =>
     have ⟨e,he,hb⟩:=GN.1 h4
     have h5:=F5.1 h2 e he
     rw [← Gc hb,hd] at h5
     exact absurd h5 Bool.noConfusion
   have e:kN D2 env2 b2 d=b2 d:=by
    simp only [kN]
    rw [hD]
    exact gZ b2 d h3 hd
   rw [e]
   exact ih d
theorem rJ {α:Type} (D:List Nat) (M:α→List (Nat×CV)) (Hp:α→List (Option Nat×av)) (φ:α→Prop) (μ:α→Nat) (p0:α) (h0:φ p0) (hM:∀ p,((M p).all fun x=>D.any (Nat.beq x.1))=true) (he:cA s.env s.b (M p0)) (hH:ar s.H (Hp p0))
  (hr:∀ p,φ p→ap P G c ⟨M p,kN D s.env s.b,Hp p⟩ (iY (fun s'=>∃ p',φ p'∧μ p'<μ p∧n9 D (kN D s.env s.b) s'.b∧(s'.env.all fun x=>D.any (Nat.beq x.1))=true∧cA s'.env s'.b (M p')∧(Hp p').length≤s'.H.length∧ar (s'.H.take (Hp p').length) (Hp p')) R)):ap P G (.loop c) s R:=by
 have top0:∀ d,D.any (Nat.beq d)=true→kN D s.env s.b d=.top:=fun d hd=>by simp only [kN];rw [hd]
 have top:∀ (l:List (Nat×CV)),(l.all fun x=>D.any (Nat.beq x.1))=true→∀ d v,(d,v) ∈ l→kN D s.env s.b d=.top:=fun l hl d v hv=>by
  have:=F5.1 hl _ hv
  simp only [kN]
  simp only at this
  rw [this]
 refine uN (fun p=>⟨M p,kN D s.env s.b,Hp p⟩) φ μ p0 h0 ?_ (fun p hp=>nQ (hr p hp) (fun e s' h=>?_))
 ·have he':∀ d,J (look s.env s.b d) (look (M p0) (kN D s.env s.b) d):=cA.look he fun d _=>by
   simp only [kN]
   split
   exact J.top _
   exact cZ
  have h1:=zN (G:=G) (H:=s.H) (H':=s.H) he' (List.range s.H.length) (dO _) (by rw [dP _ _ (FQ _),GH])
  exact h1.trans (sS hH)
 ·cases e with
  | normal =>
   have ⟨p',h1,h2,h3,h4,h5,h6,h7⟩:=h
   refine ⟨p',h1,h2,?_⟩
   have he':∀ d,J (look s'.env s'.b d) (look (M p') (kN D s.env s.b) d):=cA.look h5 fun d hd=>by
    have key:∀ l:List (Nat×CV),(l.all fun x=>D.any (Nat.beq x.1))=true→J (look l s'.b d) (kN D s.env s.b d):=by
     intro l hl
     induction l with
     | nil=>exact h3.ent top0 d
     | cons x r ih =>
      have ⟨q,v⟩:=x
      by_cases hq:q=d
      ·rw [top _ hl d v (by rw [hq];exact F2 ..)];exact J.top _
      ·rw [aQ _ _ _ hq]
       exact ih (by simp only [Ha,FK] at hl;exact hl.2)
    exact key _ h4
   have h8:=zN (G:=G) (H:=s'.H) (H':=s'.H.take (Hp p').length) he' (List.range (Hp p').length) (dO _) (by rw [dP _ _ h6])
   exact h8.trans (sS h7)
  | _=>exact h
theorem n9.out {D:List Nat} {b0 b':Nat→CV} (h:n9 D b0 b'):∀ d,D.any (Nat.beq d)=false→b' d=b0 d:=by
 induction h with
 | refl=>exact fun d _=>rfl
 | @nest D2 env2 b2 h1 h2 h3 ih =>
  intro d hd
  have hD:D2.any (Nat.beq d)=false:=by
   cases h4:D2.any (Nat.beq d) with
   | false=>rfl
   | true =>
    have ⟨e,he,hb⟩:=GN.1 h4
    have h5:=F5.1 h2 e he
    rw [← Gc hb,hd] at h5
    exact absurd h5 Bool.noConfusion
  have e:kN D2 env2 b2 d=b2 d:=by
   simp only [kN]
   rw [hD]
   exact gZ b2 d h3 hd
  rw [e]
  exact ih d hd
theorem ii {α:Type} {d:Code} (D:List Nat) (M:α→List (Nat×CV)) (Hp:α→List (Option Nat×av)) (φ:α→Prop) (hM:∀ p,((M p).all fun x=>D.any (Nat.beq x.1))=true)
  (h1:ap P G c ⟨[],look s.env s.b,s.H⟩ (iY (fun s'=>∃ p,φ p∧n9 D (look s.env s.b) s'.b∧(s'.env.all fun x=>D.any (Nat.beq x.1))=true∧cA s'.env s'.b (M p)∧(Hp p).length≤s'.H.length∧ar (s'.H.take (Hp p).length) (Hp p)) R))
  (h2:∀ p,φ p→ap P G d ⟨M p,kN D s.env s.b,Hp p⟩ R):ap P G (.seq c d) s R:=by
 have h0:aZ G s ⟨[],look s.env s.b,s.H⟩:=by
  have:=zN (G:=G) (env:=s.env) (b:=s.b) (env':=[]) (b':=look s.env s.b) (H:=s.H) (H':=s.H) (fun d=>cZ) (List.range s.H.length) (dO _) (by rw [dP _ _ (FQ _),GH])
  exact this
 refine jE h0 (mh (nQ h1 fun e s' h=>?_))
 cases e with
 | normal =>
  have ⟨p,h3,h4,h5,h6,h7,h8⟩:=h
  refine jE ?_ (h2 p h3)
  have he':∀ d,J (look s'.env s'.b d) (look (M p) (kN D s.env s.b) d):=cA.look h6 fun d hd=>by
   cases hD:D.any (Nat.beq d) with
   | true=>simp only [kN];rw [hD];exact J.top _
   | false =>
    have e1:look s'.env s'.b d=s'.b d:=gZ s'.b d h5 hD
    have e2:kN D s.env s.b d=look s.env s.b d:=by simp only [kN];rw [hD]
    rw [e1,e2,h4.out d hD]
    exact cZ
  have h9:=zN (G:=G) (H:=s'.H) (H':=s'.H.take (Hp p).length) he' (List.range (Hp p).length) (dO _) (by rw [dP _ _ h7])
  exact h9.trans (sS h8)
 | _=>exact h
structure tj (gs:List Nat) (al:List Addr) (St F0:Nat→Prop) (H:List (Option Nat×av)) (w:World):Prop where
 s3:∀ b,St b→b<w.heap.size
 sn:cd w gs al
 sg:(∀ g ∈ iB gs,St g)∧∀ a ∈ al,St a.block
 hp:∃ fp,qK al St w w.heap.size F0 H fp
 f0:∀ b,F0 b→¬ St b
def AC (gs:List Nat) (P:Program) (f:FuncId) (H:List (Option Nat×av)) (args:List CV) (Q:CV→List (Option Nat×av)→Prop):Prop :=
 ∀ al w St F0 (vals:Array Value),tj gs al St F0 H w→vals.size=args.length→(∀ i,ai al St w (fl args i) (vals.getD i undef)) →
  Calls P f vals w fun e w'=>∃ v r H' St',e=.returned v∧Q r H'∧ai al St' w' r v∧d6 F0 w w'∧(∀ b,St b→St' b)∧(∀ b,St' b→St b∨w.heap.size≤b∨F0 b)∧(∀ b,St' b→b<w'.heap.size)∧a6 al St' w' w.heap.size F0 H'
theorem AC.mono {gs:List Nat} {f:FuncId} {H:List (Option Nat×av)} {args:List CV} {Q Q':CV→List (Option Nat×av)→Prop} (h:AC gs P f H args Q) (hQ:∀ r H',Q r H'→Q' r H'):AC gs P f H args Q' :=
 fun al w St F0 vals he hs hv=>(h al w St F0 vals he hs hv).mono fun _ _ ⟨v,r,H',St',h1,h2,h3⟩=>⟨v,r,H',St',h1,hQ _ _ h2,h3⟩
def eI (P:Program) (G:Gh) (fn:Func) (s:AS) (r:CV):Prop:=∀ St a w,ab G St s a w→∃ v,(results fn a.tmps).run P w=.ok v w∧ai G.al St w r v
def fB (P:Program) (G:Gh) (fn:Func) (Q:CV→List (Option Nat×av)→Prop):Exit→AS→Prop
 | .normal,s|.ret,s=>∃ r H',eI P G fn s r∧Q r H'∧∀ St a w,ab G St s a w→a6 G.al St w G.w0.heap.size G.F0 H'
 | _,_=>False
def oY:Nat→List CV→List (Nat×CV)
 | _,[]=>[]
 | i,x::r=>(i,x)::oY (i+1) r
theorem uu (b:Nat→CV) (hb:∀ d,b d=.top) (l:List CV):∀ (i d:Nat),look (oY i l) b d=if d<i then .top else fl l (d-i):=by
 induction l with
 | nil=>intro i d;simp [oY,look,fl,hb]
 | cons x r ih =>
  intro i d
  by_cases h:i=d
  ·subst h;rw [oY,bw];simp [fl]
  ·rw [oY,aQ _ _ _ h,ih]
   by_cases h2:d<i
   ·rw [jP,FO h2]
   ·rw [jK,FN h2]
    obtain ⟨m,hm⟩:∃ m,d-i=m+1:=⟨d-i-1,by omega⟩
    rw [hm,show d-(i+1)=m by omega,fl]
theorem jn:∀ (l:List CV) (i:Nat),l.length≤i→fl l i=.top
 | [],_,_=>by simp [fl]
 | _::r,0,h=>by simp at h
 | _::r,i+1,h=>by rw [fl];exact jn r i (by simpa using h)
theorem nt {fn:Func} {R:Ending→World→Prop}:∀ (Ds:List Nat) (tmps:Array Value) (w:World) (St:Nat→Prop),ab G St s { tmps:=tmps,defers:=Ds.map gD } w →
  (∀ w',ab G St s { tmps:=tmps,defers:=[] } w'→∃ v,(results fn tmps).run P w'=.ok v w'∧R (.returned v) w')→LeavesInM Fence.wide 0 P fn tmps R (Ds.map gD) .returning w
 | [],tmps,w,St,hr,h=>h w hr
 | D::Ds,tmps,w,St,hr,h=>by
  have ⟨h1,h2⟩:=ab.take hr
  exact ⟨fun e=>(by cases e),.inl ⟨D,_,rfl,run_takeDeferred h1,nt Ds tmps _ St h2 h⟩⟩
theorem CM {gs:List Nat} {f:FuncId} {fn:Func} {H:List (Option Nat×av)} {args:List CV} {Q:CV→List (Option Nat×av)→Prop} (yl:Bool) (n:Nat) (hf:P.funcs[f]?=some fn) (hb:fn.body=some c) (hn:fn.ntmps=n) (hle:Nat.ble args.length n=true)
  (h:∀ (al:List Addr) (w0:World) (F0 St0:Nat→Prop),ap P ⟨gs,al,w0,F0,St0,n,none,yl⟩ c ⟨oY 0 args,fun _=>.top,H⟩ (fB P ⟨gs,al,w0,F0,St0,n,none,yl⟩ fn Q)):AC gs P f H args Q:=by
 intro al w St F0 vals he hs hv
 have hle:args.length≤n:=FS hle
 refine callsIn_wide.1 (callsIn_of_wp_marks (F:=Fence.wide) (n:=0) hf hb trivial (h al w F0 St { tmps:=vals++Array.replicate (fn.ntmps-vals.size) undef,defers:=[] } w ⟨St,iD.none _ _ _,?_,?_,d6.refl _ _,fun _ h=>h,fun _ h=>.inl h,he.s3,he.hp,he.sn,he.sg⟩ _ ?_))
 ·simp [hn,hs];omega
 ·intro d
  show ai al St w (look (oY 0 args) (fun _=>.top) d) _
  rw [uu _ (fun _=>rfl),jK,Nat.sub_zero]
  have:=hv d
  by_cases hd:d<args.length
  ·have e:(vals++Array.replicate (fn.ntmps-vals.size) undef).getD d undef=vals.getD d undef:=by
    simp [hs,hd,Gp]
   rw [e]
   exact this
  ·rw [jn args d O]
   trivial
 ·intro e s' a' w' h1 h2
  have ⟨St',hr⟩:=h2
  have key:∀ {r H'},eI P ⟨gs,al,w,F0,St,n,none,yl⟩ fn s' r→Q r H'→(∀ Sx a w',ab ⟨gs,al,w,F0,St,n,none,yl⟩ Sx s' a w'→a6 al Sx w' w.heap.size F0 H')→LeavesInM Fence.wide 0 P fn a'.tmps (fun e w'=>∃ v_1 r H' St',e=Ending.returned v_1∧Q r H'∧ai al St' w' r v_1∧d6 F0 w w'∧(∀ b,St b→St' b)∧(∀ b,St' b→St b∨w.heap.size≤b∨F0 b)∧(∀ b,St' b→b<w'.heap.size)∧a6 al St' w' w.heap.size F0 H') a'.defers .returning w':=by
   intro r H' hres hq hh
   have ⟨Ds,hD,_⟩:=hr.df
   have ⟨tmps,ds⟩:=a'
   simp only at hD
   subst hD
   refine nt Ds tmps w' St' hr fun w'' hr'=>?_
   obtain ⟨v,hv,hrep⟩:=hres St' _ w'' hr'
   exact ⟨v,hv,v,r,H',St',rfl,hq,hrep,hr'.un,hr'.s1,hr'.s2,hr'.s3,hh St' _ w'' hr'⟩
  cases e with
  | normal=>have ⟨r,H',hres,hq,hh⟩:=h1;exact key hres hq hh
  | ret=>have ⟨r,H',hres,hq,hh⟩:=h1;exact key hres hq hh
  | _=>exact h1.elim
theorem Eb {gs:List Nat} {f:FuncId} {fn:Func} {H:List (Option Nat×av)} {args:List CV} {Q:CV→List (Option Nat×av)→Prop} (n:Nat) (hf:P.funcs[f]?=some fn) (hb:fn.body=some c) (hn:fn.ntmps=n) (hle:Nat.ble args.length n=true)
  (h:∀ (al:List Addr) (w0:World) (F0 St0:Nat→Prop),ap P ⟨gs,al,w0,F0,St0,n,none,false⟩ c ⟨oY 0 args,fun _=>.top,H⟩ (fB P ⟨gs,al,w0,F0,St0,n,none,false⟩ fn Q)):AC gs P f H args Q:=CM false n hf hb hn hle h
theorem ag {gs:List Nat} {f:FuncId} {fn:Func} {H:List (Option Nat×av)} {args:List CV} {Q:CV→List (Option Nat×av)→Prop} (n:Nat) (hf:P.funcs[f]?=some fn)
  (h:∀ (al:List Addr) (w0:World) (F0 St0:Nat→Prop),ap P ⟨gs,al,w0,F0,St0,n,none,false⟩ c ⟨oY 0 args,fun _=>.top,H⟩ (fB P ⟨gs,al,w0,F0,St0,n,none,false⟩ fn Q)) (hb:fn.body=some c:=by exact rfl) (hn:fn.ntmps=n:=by exact rfl) (hle:Nat.ble args.length n=true:=by exact rfl):AC gs P f H args Q:=Eb n hf hb hn hle h
theorem xy {fn:Func} {Q:CV→List (Option Nat×av)→Prop} {e:Exit} (he:e=.ret∨e=.normal) (v:CV) (hres:eI P G fn s v) (hq:Q v []):fB P G fn Q e s:=by
 have h:∃ r H',eI P G fn s r∧Q r H'∧∀ St a w,ab G St s a w→a6 G.al St w G.w0.heap.size G.F0 H':=⟨v,[],hres,hq,fun _ _ _ _=>a6.none _ _ _ _ _⟩
 rcases he with rfl|rfl<;>exact h
theorem aY {fn:Func} {Q:CV→List (Option Nat×av)→Prop} {e:Exit} (he:e=.ret∨e=.normal) (v:CV) (H':List (Option Nat×av)) (l:List Nat) (hl:l.Nodup) (hH:d3 s.H l=H') (hres:eI P G fn s v) (hq:Q v H'):fB P G fn Q e s:=by
 have h:∃ r H',eI P G fn s r∧Q r H'∧∀ St a w,ab G St s a w→a6 G.al St w G.w0.heap.size G.F0 H':=⟨v,H',hres,hq,fun _ _ _ hr=>hr.hp.pick l hl hH⟩
 rcases he with rfl|rfl<;>exact h
theorem eI.ent {fn:Func} {v v':CV} (h:eI P G fn s v) (hv:J v v'):eI P G fn s v':=fun St a w hr=>by
 have ⟨x,h1,h2⟩:=h St a w hr
 exact ⟨x,h1,hv _ _ _ _ h2⟩
end
section
variable {P:Program} {G:Gh} {ops:Array Oper} {o:Oper} {s:AS}
theorem iR {St:Nat→Prop} {a:Act} {w:World} (h:ab G St s a w) {x:Operand} {v:Value} (I:s.eval x=.c v):a.eval x=v:=by
 have:=h.eval x
 rw [I] at this
 exact this
theorem c7 {St:Nat→Prop} {a:Act} {w:World} (h:ab G St s a w) {x:Operand} {c:CV} (I:s.eval x=c):ai G.al St w c (a.eval x):=I ▸ h.eval x
theorem iz {x:Sem Value} {v:Value} {W W':World} (h:x.run P W=.ok v W'):(do pure (Next.value (← x)):Sem Next).run P W=.ok (.value v) W':=by
 simp [h]
theorem yP {x:Operand} {v:CV} (ho:o.op=.move x) (hv:s.eval x=v):aN P G o s v:=fun _ a _ h=>⟨a.eval x,fun W _=>BigFrame.run_move x ho W,c7 h hv⟩
theorem uh {x:Operand} {v:CV} (ho:o.op=.assign x) (hv:s.eval x=v):aN P G o s v:=fun _ a _ h=>⟨a.eval x,fun W _=>BigFrame.run_assign x ho W,c7 h hv⟩
def eX (op:BinOp) (t:TypeId) (x y:Operand) (p q:Value):Sem Value:=do eqGuard op t x y p q;binOp op t p q
theorem bv {op:BinOp} {t u:TypeId} {x y:Operand} {p q v:Value} (ho:o.op=.binOp op t x y u) (I:s.eval x=.c p) (hy:s.eval y=.c q)
  (hr:∀ W,(eX op t x y p q).run P W=.ok v W):aN P G o s (.c v):=fun _ a _ h =>
 ⟨v,fun W _=>by simp only [execOp,ho,iR h I,iR h hy];exact iz (hr W),rfl⟩
variable {t u:TypeId} {x y:Operand} {k:IntKind} {a b:Int}
theorem BR (ho:o.op=.binOp .add t x y u) (I:s.eval x=.c (.int k a)) (hy:s.eval y=.c (.int k b)) (hr:k.wrap (a+b)=a+b):aN P G o s (.c (.int k (a+b))) :=
 bv ho I hy fun W=>by simp [eX,eqGuard,binOp,Op.intArith,hr]
theorem Bw (ho:o.op=.binOp .sub t x y u) (I:s.eval x=.c (.int k a)) (hy:s.eval y=.c (.int k b)) (hr:k.wrap (a-b)=a-b):aN P G o s (.c (.int k (a-b))) :=
 bv ho I hy fun W=>by simp [eX,eqGuard,binOp,Op.intArith,hr]
theorem BH (ho:o.op=.binOp .mul t x y u) (I:s.eval x=.c (.int k a)) (hy:s.eval y=.c (.int k b)) (hr:k.wrap (a * b)=a * b):aN P G o s (.c (.int k (a * b))) :=
 bv ho I hy fun W=>by simp [eX,eqGuard,binOp,Op.intArith,hr]
theorem Bz (ho:o.op=.binOp .quo t x y u) (I:s.eval x=.c (.int k a)) (hy:s.eval y=.c (.int k b)) (h0:0≤a) (h1:1≤b) (hr:k.wrap (a / b)=a / b):aN P G o s (.c (.int k (a / b))) :=
 bv ho I hy fun W=>by simp [eX,eqGuard,binOp,Op.intDiv,show ¬ b=0 by omega,Int.tdiv_eq_ediv_of_nonneg h0,hr]
theorem By (ho:o.op=.binOp .rem t x y u) (I:s.eval x=.c (.int k a)) (hy:s.eval y=.c (.int k b)) (h0:0≤a) (h1:1≤b):aN P G o s (.c (.int k (a % b))) :=
 bv ho I hy fun W=>by simp [eX,eqGuard,binOp,Op.intDiv,show ¬ b=0 by omega,Int.tmod_eq_emod_of_nonneg h0]
theorem Di (ho:o.op=.binOp .or t x y u) (I:s.eval x=.c (.int k a)) (hy:s.eval y=.c (.int k b)) (z:Int) (hr:k.wrap (BitVec.ofInt k.bits a ||| BitVec.ofInt k.bits b).toNat=z):aN P G o s (.c (.int k z)) :=
 bv ho I hy fun W=>by simp [eX,eqGuard,binOp,Op.intBits,← hr]
theorem Bx {k':IntKind} (ho:o.op=.binOp .shl t x y u) (I:s.eval x=.c (.int k a)) (hy:s.eval y=.c (.int k' b)) (h0:0≤b) (z:Int) (hr:k.wrap (a * 2 ^ (min b.toNat k.bits))=z):aN P G o s (.c (.int k z)) :=
 bv ho I hy fun W=>by simp [eX,eqGuard,binOp,Op.shift,show ¬ b<0 by omega,← hr]
theorem oF {k':IntKind} (ho:o.op=.binOp .shr t x y u) (I:s.eval x=.c (.int k a)) (hy:s.eval y=.c (.int k' b)) (h0:0≤b) (z:Int) (hr:a.fdiv (2 ^ (min b.toNat k.bits))=z):aN P G o s (.c (.int k z)) :=
 bv ho I hy fun W=>by simp [eX,eqGuard,binOp,Op.shift,show ¬ b<0 by omega,← hr]
theorem Ae {α:Type} [BEq α] [LawfulBEq α] [DecidableEq α] (a b:α):(a == b)=decide (a=b):=by
 by_cases h:a=b
 ·subst h;simp
 ·simp [h]
theorem ie (op:BinOp) (t:TypeId) (x y:Operand) (k k':IntKind) (a b:Int) (W:World):(eqGuard op t x y (.int k a) (.int k' b)).run P W=.ok () W:=by
 unfold eqGuard
 split<;>simp
theorem BO (ho:o.op=.binOp .eql t x y u) (I:s.eval x=.c (.int k a)) (hy:s.eval y=.c (.int k b)):aN P G o s (.c (.bool (decide (a=b)))) :=
 bv ho I hy fun W=>by simp [eX,ie,binOp,Op.intCmp];exact Ae ..
theorem BE (ho:o.op=.binOp .neq t x y u) (I:s.eval x=.c (.int k a)) (hy:s.eval y=.c (.int k b)):aN P G o s (.c (.bool (decide (a≠b)))) :=
 bv ho I hy fun W=>by simp [eX,ie,binOp,Op.intCmp,bne,Ae]
theorem Dj (ho:o.op=.binOp .lss t x y u) (I:s.eval x=.c (.int k a)) (hy:s.eval y=.c (.int k b)):aN P G o s (.c (.bool (decide (a<b)))) :=
 bv ho I hy fun W=>by simp [eX,ie,binOp,Op.intCmp]
theorem Dk (ho:o.op=.binOp .leq t x y u) (I:s.eval x=.c (.int k a)) (hy:s.eval y=.c (.int k b)):aN P G o s (.c (.bool (decide (a≤b)))) :=
 bv ho I hy fun W=>by simp [eX,ie,binOp,Op.intCmp]
theorem Dl (ho:o.op=.binOp .gtr t x y u) (I:s.eval x=.c (.int k a)) (hy:s.eval y=.c (.int k b)):aN P G o s (.c (.bool (decide (b<a)))) :=
 bv ho I hy fun W=>by simp [eX,ie,binOp,Op.intCmp]
theorem Dm (ho:o.op=.binOp .geq t x y u) (I:s.eval x=.c (.int k a)) (hy:s.eval y=.c (.int k b)):aN P G o s (.c (.bool (decide (b≤a)))) :=
 bv ho I hy fun W=>by simp [eX,ie,binOp,Op.intCmp]
theorem aN.int {z z':Int} (h:aN P G o s (.c (.int k z))) (e:z=z'):aN P G o s (.c (.int k z')):=e ▸ h
theorem aN.bool {z z':Bool} (h:aN P G o s (.c (.bool z))) (e:z=z'):aN P G o s (.c (.bool z')):=e ▸ h
theorem aN.ent {v v':CV} (h:aN P G o s v) (e:J v v'):aN P G o s v':=fun St a w hr=>by
 have ⟨x,h1,h2⟩:=h St a w hr
 exact ⟨x,h1,e _ _ _ _ h2⟩
theorem qr (op:BinOp) (t:TypeId) (x y:Operand) (a b:Bool) (W:World):(eqGuard op t x y (.bool a) (.bool b)).run P W=.ok () W:=by
 unfold eqGuard
 split<;>simp
theorem BQ {a b:Bool} (ho:o.op=.binOp .eql t x y u) (I:s.eval x=.c (.bool a)) (hy:s.eval y=.c (.bool b)) (ht:P.underlying t=some .bool):aN P G o s (.c (.bool (a == b))) :=
 bv ho I hy fun W=>by unfold eX;simp only [Sem.run_bind,qr,Result.andThen_ok];first|exact run_eql_bool W t a b ht|exact run_neq_bool W t a b ht
theorem BG {a b:Bool} (ho:o.op=.binOp .neq t x y u) (I:s.eval x=.c (.bool a)) (hy:s.eval y=.c (.bool b)) (ht:P.underlying t=some .bool):aN P G o s (.c (.bool (!(a == b)))) :=
 bv ho I hy fun W=>by unfold eX;simp only [Sem.run_bind,qr,Result.andThen_ok];first|exact run_eql_bool W t a b ht|exact run_neq_bool W t a b ht
theorem lr (op:BinOp) (t:TypeId) (x y:Operand) (a b:ByteArray) (W:World):(eqGuard op t x y (.string a) (.string b)).run P W=.ok () W:=by
 unfold eqGuard
 split<;>simp
theorem iF {a b:ByteArray}:(a.toList=b.toList)↔a=b:=by
 constructor
 ·intro h
  rw [Go.ByteArray.toList_eq,Go.ByteArray.toList_eq] at h
  cases a;cases b
  simp at h
  rw [h]
 ·rintro rfl;rfl
theorem BM {a b:ByteArray} (ho:o.op=.binOp .eql t x y u) (I:s.eval x=.c (.string a)) (hy:s.eval y=.c (.string b)):aN P G o s (.c (.bool (decide (a=b)))) :=
 bv ho I hy fun W=>by simp [eX,lr,binOp,Op.stringOp,Ae,iF]
theorem BC {a b:ByteArray} (ho:o.op=.binOp .neq t x y u) (I:s.eval x=.c (.string a)) (hy:s.eval y=.c (.string b)):aN P G o s (.c (.bool (decide (a≠b)))) :=
 bv ho I hy fun W=>by simp [eX,lr,binOp,Op.stringOp,Ae,iF]
theorem BI {a b:ByteArray} (ho:o.op=.binOp .lss t x y u) (I:s.eval x=.c (.string a)) (hy:s.eval y=.c (.string b)):aN P G o s (.c (.bool (Op.bytesLess a.toList b.toList))) :=
 bv ho I hy fun W=>by simp [eX,lr,binOp,Op.stringOp]
theorem BK {a b:ByteArray} (ho:o.op=.binOp .gtr t x y u) (I:s.eval x=.c (.string a)) (hy:s.eval y=.c (.string b)):aN P G o s (.c (.bool (!(Op.bytesLess a.toList b.toList || a.toList == b.toList)))) :=
 bv ho I hy fun W=>by simp [eX,lr,binOp,Op.stringOp]
theorem BP {n:Nat} (ho:o.op=.binOp .eql 37 x (.const .nilIface) u) (I:s.eval x=.err n):aN Tryz.prog G o s (.c (.bool (decide (n=0)))):=fun St a w h =>
 ⟨_,fun W _=>by
  have e:a.eval x=ev G.al n:=c7 h I
  simp only [execOp,ho,e]
  refine iz ?_
  show (do eqGuard .eql _ _ _ (ev G.al n) .nilIface;binOp .eql _ (ev G.al n) .nilIface:Sem Value).run _ W=_
  rw [di]
  exact gx G.al n W,rfl⟩
theorem BF {n:Nat} (ho:o.op=.binOp .neq 37 x (.const .nilIface) u) (I:s.eval x=.err n):aN Tryz.prog G o s (.c (.bool (decide (n≠0)))):=fun St a w h =>
 ⟨_,fun W _=>by
  have e:a.eval x=ev G.al n:=c7 h I
  simp only [execOp,ho,e]
  refine iz ?_
  show (do eqGuard .neq _ _ _ (ev G.al n) .nilIface;binOp .neq _ (ev G.al n) .nilIface:Sem Value).run _ W=_
  rw [di]
  have:=gv G.al n W
  rw [← decide_not] at this
  exact this,rfl⟩
theorem BB {p:Bool} (ho:o.op=.unOp .not t x) (I:s.eval x=.c (.bool p)):aN P G o s (.c (.bool (!p))):=fun _ _ _ h =>
 ⟨_,fun W _=>by simp only [execOp,ho,iR h I];exact iz (by simp [Op.unary]),rfl⟩
theorem gz {k':IntKind} {d:TypeDesc} (ho:o.op=.convert t u x) (I:s.eval x=.c (.int k a)) (h1:P.underlying t=some d) (h2:P.underlying u=some (.int k')) (z:Int) (hr:k'.wrap a=z):aN P G o s (.c (.int k' z)):=fun _ _ _ h =>
 ⟨_,fun W _=>by simp only [execOp,ho,iR h I];exact iz (v:=.int k' z) (by rw [← hr];simp [convert,underlying,h1,h2,Conv.intToInt]),rfl⟩
def bX (l:V) (i:Nat):CV:=.c (.int .u8 ((l.getD i 0).toNat:Nat))
def dL (l:V):CV:=.rs 1 l.length fun i _=>bX l i
theorem nU {al:List Addr} {St:Nat→Prop} {w:World} {l:V} {v:Value} (h:ai al St w (dL l) v):Bs w v l:=by
 have ⟨ao,cap,h1,h2,h3,h4,h5⟩:=h
 refine ⟨ao,cap,h1,h2,h3,h4,fun x I=>⟨fun h=>(h5 x I h).1,fun i hi=>?_⟩⟩
 have ⟨h6,h7,h8⟩:=h5 x I O
 obtain ⟨v,hv,hr⟩:=h8 i 0 hi O
 rw [Hv,GV] at hv
 rw [hv]
 exact F7 some hr
theorem gy {al:List Addr} {St:Nat→Prop} {w W:World} {l:V} {v:Value} (h:ai al St w (dL l) v) (hW:cE St w W):ai al St W (dL l) v:=by
 have ⟨ao,cap,h1,h2,h3,h4,h5⟩:=h
 refine ⟨ao,cap,h1,h2,h3,h4,fun a ha hn=>?_⟩
 have ⟨h6,h7,h8⟩:=h5 a ha hn
 refine ⟨h6,h7,fun i j hi hj=>?_⟩
 have ⟨v,hv,hr⟩:=h8 i j hi hj
 exact ⟨v,(aO (hW _ h7) _).trans hv,hr⟩
theorem uf {e:TypeId} {l:V} (ho:o.op=.convert t u x) (I:s.eval x=dL l) (h1:P.underlying t=some (.slice e)) (h2:P.underlying e=some (.int .u8)) (h3:P.underlying u=some .string):aN P G o s (.c (.string ⟨l.toArray⟩)):=fun St a w h=>by
 have hr:=c7 h I
 refine ⟨_,fun W hW=>?_,rfl⟩
 have hb:=nU (gy hr hW)
 have ⟨ao,cap,e0,_⟩:=id hb
 simp only [execOp,ho,e0]
 rw [e0] at hb
 exact iz (mE hb _ _ _ h1 h2 h3)
theorem re {n i:Nat} {f:Nat→CV} {v:CV} (ho:o.op=.extract x i) (I:s.eval x=.tup n f) (hi:Nat.blt i n=true) (hv:f i=v):aN P G o s v:=fun St a w h=>by
 have ⟨cs,e,hn,hf⟩:=c7 h I
 have hlt:i<n:=FS hi
 refine ⟨cs.getD i undef,fun W _=>?_,hv ▸ hf i hlt⟩
 simp only [execOp,ho,e]
 refine iz ?_
 have:i<cs.size:=by omega
 simp [Instr.extract,this]
def eD (P:Program) (t:TypeId):Bool:=match P.underlying t with|some (.struct _)|some (.array _ _)=>true|_=>false
theorem jM {d:TypeDesc} (h:P.underlying t=some d) (W:World):(isAgg t).run P W=.ok (eD P t) W:=by
 unfold isAgg eD
 simp only [Sem.run_bind,underlying,run_program,Result.andThen_ok,h]
 cases d<;>simp
theorem gw {fd:Field} {info:TypeInfo} {b q:Nat} (h5:P.info? fd.type=some info) (h6:info.size≠0) (W:World):(fieldPlace ⟨b,q,none⟩ fd).run P W=.ok ⟨b,q+fd.offset,none⟩ W:=by
 simp [fieldPlace,sizeOf,typeInfo,h5,h6,Addr.add_lit]
theorem ud {fs:Array Field} {fd:Field} {n i m:Nat} {f:Nat→CV} (ho:o.op=.fieldAddr t x i) (I:s.eval x=.rp n f) (h1:P.underlying t=some (.struct fs)) (h2:fs[i]?=some fd)
  (h5:(P.info? fd.type).map (·.size)=some m) (h6:Nat.blt 0 m=true):aN P G o s (.rp (n-fd.offset) fun j=>f (fd.offset+j)):=fun St a w h=>by
 have ⟨info,h5i,h7⟩:=FM.1 h5
 subst h7
 clear h5
 have ⟨b,q,e,hb,hf⟩:=c7 h I
 refine ⟨.pointer (some ⟨b,q+fd.offset,none⟩),fun W _=>?_,b,q+fd.offset,rfl,hb,fun j hj=>?_⟩
 ·simp only [execOp,ho,e]
  refine iz ?_
  simp [Instr.fieldAt,underlying,h1,h2,Instr.sureAddr,gw h5i (show info.size≠0 by have:=FS h6;omega)]
 ·rw [HU];exact hf _ O
theorem ue {fs:Array Field} {fd:Field} {i j off m:Nat} {g:Option Nat} (ho:o.op=.fieldAddr t x i) (I:s.eval x=.op j g off) (h1:P.underlying t=some (.struct fs)) (h2:fs[i]?=some fd)
  (h5:(P.info? fd.type).map (·.size)=some m) (h6:Nat.blt 0 m=true):aN P G o s (.op j g (off+fd.offset)):=fun St a w h=>by
 have ⟨info,h5i,h7⟩:=FM.1 h5
 subst h7
 clear h5
 obtain ⟨b,rfl,e⟩:=c7 h I
 refine ⟨.pointer (some ⟨b,off+fd.offset,none⟩),fun W _=>?_,b,rfl,rfl⟩
 simp only [execOp,ho,e]
 refine iz ?_
 simp [Instr.fieldAt,underlying,h1,h2,Instr.sureAddr,gw h5i (show info.size≠0 by have:=FS h6;omega)]
theorem cm (b q m:Nat):Addr.add ⟨b,q,none⟩ m=⟨b,q+m,none⟩:=Addr.add_lit b q m
theorem uc {e:TypeId} {n m i:Nat} {f:Nat→Nat→CV} {z:Int} (ho:o.op=.indexAddr t x y) (I:s.eval x=.rs m n f) (hy:s.eval y=.c (.int k z)) (h1:P.underlying t=some (.slice e))
  (h5:(P.info? e).map (·.size)=some m) (hz:z=(i:Int)) (hi:i<n) (hm:0<m):aN P G o s (.rp m (f i)):=fun St a w h=>by
 have ⟨info,h5i,h6⟩:=FM.1 h5
 have ⟨ao,cap,e0,h2,h3,h4,h7⟩:=c7 h I
 have ey:a.eval y=.int k z:=iR h hy
 cases ao with
 | none=>have:=h4 rfl;omega
 | some ad =>
  have ⟨b,q,sp⟩:=ad
  obtain ⟨h8,h9,h10⟩:=h7 _ rfl O
  simp only at h8 h9
  subst h8
  refine ⟨.pointer (some ⟨b,q+i * m,none⟩),fun W _=>?_,b,q+i * m,rfl,h9,fun j hj=>?_⟩
  ·simp only [execOp,ho,e0,ey]
   refine iz ?_
   subst hz
   simp [Instr.indexAt,asIntOf,underlying,h1,sizeOf,typeInfo,h5i,h6,hi,cm]
  ·have ⟨v,hv,hr⟩:=h10 i j hi hj
   exact ⟨v,by rw [HU];exact hv,hr⟩
theorem jV {e:TypeId} {j off n m i:Nat} {g:Option Nat} {z:Int} (ho:o.op=.indexAddr t x y) (I:s.eval x=.os j g off n m) (hy:s.eval y=.c (.int k z)) (h1:P.underlying t=some (.slice e))
  (h5:(P.info? e).map (·.size)=some m) (hz:z=(i:Int)) (hi:i<n):aN P G o s (.op j g (off+i * m)):=fun St a w h=>by
 have ⟨info,h5i,h6⟩:=FM.1 h5
 obtain ⟨b,rfl,cap,e0⟩:∃ b,g=some b∧∃ cap,a.eval x=.slice (some ⟨b,off,none⟩) n cap:=by
  have he:=c7 h I
  cases g with
  | none=>have:=he.1;omega
  | some b=>have ⟨cap,e0,_⟩:=he;exact ⟨b,rfl,cap,e0⟩
 have ey:a.eval y=.int k z:=iR h hy
 refine ⟨.pointer (some ⟨b,off+i * m,none⟩),fun W _=>?_,b,rfl,rfl⟩
 simp only [execOp,ho,e0,ey]
 refine iz ?_
 subst hz
 simp [Instr.indexAt,asIntOf,underlying,h1,sizeOf,typeInfo,h5i,h6,hi,cm]
theorem ua {l:ByteArray} {i:Nat} {z:Int} (ho:o.op=.index t x y) (I:s.eval x=.c (.string l)) (hy:s.eval y=.c (.int k z)) (h1:P.underlying t=some .string) (hz:z=(i:Int)) (hi:i<l.size):aN P G o s (bX l.data.toList i):=fun St a w h=>by
 refine ⟨.int .u8 ((l.data.toList.getD i 0).toNat:Nat),fun W _=>?_,rfl⟩
 simp only [execOp,ho,iR h I,iR h hy]
 refine iz ?_
 subst hz
 have hi':i<l.data.size:=hi
 have e:l[i]?=some l.data[i]:=by
  rw [getElem?_pos l i hi];rfl
 simp [Instr.index,asIntOf,underlying,h1,e,List.getD]
 rw [FP hi']
 rfl
theorem fI {d:TypeDesc} (h:P.underlying t=some d) (ha:eD P t=false) {w:World} {p:Addr} {v:Value} (hc:w.cell? p=some v):(loadVar t p).run P w=.ok v w:=by
 simp [loadVar,jM h,ha,hc]
theorem fH {d:TypeDesc} {info:TypeInfo} (h:P.underlying t=some d) (ha:eD P t=true) (h5:P.info? t=some info) {w:World} {b q:Nat} {g:Nat→Value} (hc:∀ j,j<info.size→w.cell? ⟨b,q+j,none⟩=some (g j)) :
  (loadVar t ⟨b,q,none⟩).run P w=.ok (.agg ((List.range info.size).map g).toArray) w:=by
 have:=run_loadCells (P:=P) (w:=w) ⟨b,q,none⟩ info.size g (fun j hj=>by rw [cm];exact hc j hj)
 simp [loadVar,jM h,ha,sizeOf,typeInfo,h5,this]
theorem fy (ho:o.op=.load t x) {a:Act} {W:World} {p:Addr} {v:Value} (hp:a.eval x=.pointer (some p)) (hl:(loadVar t p).run P W=.ok v W):(execOp a.eval o).run P W=.ok (.value v) W:=by
 simp only [execOp,ho,hp]
 exact iz (by simp [Instr.loadAt,Instr.sureAddr,hl])
theorem vQ {d:TypeDesc} {n:Nat} {f:Nat→CV} {v:CV} (ho:o.op=.load t x) (I:s.eval x=.rp n f) (h1:P.underlying t=some d) (ha:eD P t=false) (hn:0<n) (hv:f 0=v):aN P G o s v:=fun St a w h=>by
 have ⟨b,q,e,hb,hf⟩:=c7 h I
 obtain ⟨u,hu,hr⟩:=hf 0 hn
 refine ⟨u,fun W hW=>fy ho e (fI h1 ha ?_),hv ▸ hr⟩
 exact (aO (hW b hb) q).trans hu
theorem jw {p:Nat→Value→Prop} {n:Nat} (h:∀ j,j<n→∃ v,p j v):∃ g:Nat→Value,∀ j,j<n→p j (g j):=by
 classical
 exact ⟨fun j=>if hj:j<n then (h j hj).choose else undef,fun j hj=>by simp only [dif_pos hj];exact (h j hj).choose_spec⟩
theorem t7 {d:TypeDesc} {n m:Nat} {f:Nat→CV} (ho:o.op=.load t x) (I:s.eval x=.rp n f) (h1:P.underlying t=some d) (ha:eD P t=true) (h5:(P.info? t).map (·.size)=some m) (hn:m≤n):aN P G o s (.agg m f):=fun St a w h=>by
 have ⟨info,h5i,h6⟩:=FM.1 h5
 have ⟨b,q,e,hb,hf⟩:=c7 h I
 obtain ⟨g,hg⟩:=jw (fun j (hj:j<n)=>hf j hj)
 subst h6
 refine ⟨_,fun W hW=>fy ho e (fH h1 ha h5i (g:=g) fun j hj=>?_),_,rfl,by simp,fun i hi=>?_⟩
 exact (aO (hW b hb) _).trans (hg j O).1
 ·simp [hi];exact (hg i O).2
theorem qG {St:Nat→Prop} {a:Act} {w:World} (h:ab G St s a w) {i g n:Nat} {f:Nat→CV} (hH:s.H[i]?=some (some g,.blk n f)) :
  g<w.heap.size∧∃ cur t z,w.heap[g]?=some (.cells cur t z)∧n≤cur.size∧∀ j,j<n→ai G.al St w (f j) (cur.getD j undef):=by
 have ⟨fp,hp⟩:=h.hp
 obtain ⟨h0,cur,t,h1,h2,h4⟩:=hp.rep i (some g) _ hH
 exact ⟨(hp.own i g ((h0 g).2 rfl)).1,cur,t,_,h1,h2,h4⟩
theorem xd {St:Nat→Prop} {a:Act} {w:World} (h:ab G St s a w) {i g n:Nat} {f:Nat→CV} (hH:s.H[i]?=some (some g,.frz n f)) :
  g<w.heap.size∧∃ cur t z,w.heap[g]?=some (.cells cur t z)∧n≤cur.size∧∀ j,j<n→ai G.al St w (f j) (cur.getD j undef):=by
 have ⟨fp,hp⟩:=h.hp
 obtain ⟨h0,hg,h1⟩:=hp.rep i (some g) _ hH
 exact ⟨h.s3 g hg,h1⟩
def Holds (s:AS) (i:Nat) (g:Option Nat) (n:Nat) (f:Nat→CV):Prop:=s.H[i]?=some (g,.blk n f)∨s.H[i]?=some (g,.frz n f)
theorem fw {St:Nat→Prop} {a:Act} {w:World} (h:ab G St s a w) {i g n:Nat} {f:Nat→CV} (hH:Holds s i (some g) n f) :
  g<w.heap.size∧∃ cur t z,w.heap[g]?=some (.cells cur t z)∧n≤cur.size∧∀ j,j<n→ai G.al St w (f j) (cur.getD j undef):=by
 rcases hH with hH|hH
 exact qG h hH
 exact xd h hH
theorem vR {d:TypeDesc} {i off n:Nat} {g:Option Nat} {f:Nat→CV} {v:CV} (ho:o.op=.load t x) (I:s.eval x=.op i g off) (hH:Holds s i g n f) (h1:P.underlying t=some d) (ha:eD P t=false) (hn:off<n) (hv:f off=v):gi P G o s v:=fun St a w h=>by
 obtain ⟨b,rfl,e⟩:=c7 h I
 have ⟨hg,cur,ty,z,hh,hle,hc⟩:=fw h hH
 have hlt:off<cur.size:=by omega
 have hcell:w.cell? ⟨b,off,none⟩=some (cur.getD off undef):=by
  rw [cell_of_row w b off cur ty z hh];simp [hlt]
 refine ⟨_,fun W hW=>fy ho e (fI h1 ha ?_),hv ▸ hc off hn⟩
 exact (aO (hW.block b hg) off).trans hcell
theorem t8 {d:TypeDesc} {i off n m:Nat} {g:Option Nat} {f:Nat→CV} (ho:o.op=.load t x) (I:s.eval x=.op i g off) (hH:Holds s i g n f) (h1:P.underlying t=some d) (ha:eD P t=true) (h5:(P.info? t).map (·.size)=some m) (hn:off+m≤n):gi P G o s (.agg m fun j=>f (off+j)):=fun St a w h=>by
 have ⟨info,h5i,h6⟩:=FM.1 h5
 obtain ⟨b,rfl,e⟩:=c7 h I
 have ⟨hg,cur,ty,z,hh,hle,hc⟩:=fw h hH
 subst h6
 refine ⟨_,fun W hW=>fy ho e (fH h1 ha h5i (g:=fun j=>cur.getD (off+j) undef) fun j hj=>?_),_,rfl,by simp,fun j hj=>?_⟩
 ·have hlt:off+j<cur.size:=by omega
  have hcell:w.cell? ⟨b,off+j,none⟩=some (cur.getD (off+j) undef):=by
   rw [cell_of_row w b (off+j) cur ty z hh];simp [hlt]
  exact (aO (hW.block b hg) _).trans hcell
 ·have:=hc (off+j) O
  simp [hj] at this ⊢
  exact this
theorem vS (i:Nat) [h0:a7 G.gs i] {d:TypeDesc} {g:Nat} (ho:o.op=.load t (.global g)) (hg:gs[i]?=some g) (h1:P.underlying t=some d) (ha:eD P t=false):aN P G o s (.err (i+1)):=fun St a w h=>by
 have hl:=h0.lt g hg
 have hg:(fz G.gs)[i]?=some g:=by rw [h0.eq];exact hg
 have hc:=h.sn.var i g hg hl
 refine ⟨_,fun W hW=>fy ho (p:=⟨g,0,none⟩) rfl (fI h1 ha ?_),rfl⟩
 exact (aO (hW g (h.sg.1 g hl)) 0).trans hc
theorem yM {i off:Nat} {g:Option Nat} (ho:o.op=.nilCheck x) (I:s.eval x=.op i g off):aN P G o s (.op i g off):=fun St a w h=>by
 obtain ⟨b,rfl,e⟩:=c7 h I
 exact ⟨_,fun W _=>by simp only [execOp,ho,e];rfl,b,rfl,rfl⟩
theorem yL {n:Nat} {f:Nat→CV} (ho:o.op=.nilCheck x) (I:s.eval x=.rp n f):aN P G o s (.rp n f):=fun St a w h=>by
 have ⟨b,q,e,hb,hf⟩:=c7 h I
 exact ⟨_,fun W _=>by simp only [execOp,ho,e];rfl,b,q,rfl,hb,hf⟩
theorem yN {n:Nat} {g:FuncId} {f:Nat→CV} (ho:o.op=.nilCheck x) (I:s.eval x=.fn g n f):aN P G o s (.fn g n f):=fun St a w h=>by
 have ⟨cs,e,hn,hf⟩:=c7 h I
 exact ⟨_,fun W _=>by simp only [execOp,ho,e];rfl,cs,rfl,hn,hf⟩
theorem vO {z x' y':Operand} {v:CV} (ho:o.op=.pick z x' y') (hz:s.eval z=.c (.bool true)) (I:s.eval x'=v):aN P G o s v:=fun St a w h =>
 ⟨a.eval x',fun W _=>by simp only [execOp,ho,iR h hz];simp [asBool],c7 h I⟩
theorem vP {z x' y':Operand} {v:CV} (ho:o.op=.pick z x' y') (hz:s.eval z=.c (.bool false)) (hy:s.eval y'=v):aN P G o s v:=fun St a w h =>
 ⟨a.eval y',fun W _=>by simp only [execOp,ho,iR h hz];simp [asBool],c7 h hy⟩
end
section
variable {P:Program} {G:Gh} {ops:Array Oper} {o:Oper} {s:AS} {K:AS→Prop} {t u:TypeId} {x y:Operand} {k:IntKind}
def AS.with (s:AS) (dst:Option Tmp) (v:CV) (H:List (Option Nat×av)):AS:=⟨(s.put dst v).env,s.b,H⟩
theorem qK.len {al:List Addr} {St:Nat→Prop} {w:World} {base:Nat} {F0:Nat→Prop} {H:List (Option Nat×av)} {fp:Nat→Nat→Prop} (h:qK al St w base F0 H fp) {i b:Nat} (hb:fp i b):i<H.length:=by
 rcases Gs i H.length with h1|h1
 exact h1
 exact absurd hb (h.out i h1 b)
theorem ab.fresh {St:Nat→Prop} {a:Act} {w w':World} (h:ab G St s a w) (hb:Below w.heap.size w w') {g:Nat} (hg:w.heap.size≤g) {cs:Array Value} {ty:TypeId} (hc:w'.heap[g]?=some (.cells cs ty (0,0)))
  {n:Nat} {f:Nat→CV} (hn:n≤cs.size) (hf:∀ j,j<n→ai G.al St w' (f j) (cs.getD j undef)):ab G St ⟨s.env,s.b,s.H++[(some g,.blk n f)]⟩ a w':=by
 have h1:=h.ext hb
 have hlt:g<w'.heap.size:=(FY.1 hc).1
 refine ⟨h1.df,h1.sz,h1.env,h1.un,h1.s1,h1.s2,h1.s3,?_,h1.sn,h1.sg⟩
 have ⟨fp,hp⟩:=h.hp
 have ⟨fp1,hp1⟩:=h1.hp
 have he:k9 St w w':=k9.of_below hb h.s3
 have hnew:∀ i,¬ fp i g:=fun i hi=>by have:=(hp.own i g hi).1;omega
 refine ⟨fun i b=>if i=s.H.length then b=g else fp i b,fun i q r hi=>?_,fun i j b h2 h3=>?_,fun i b h2=>?_,fun i hi b h2=>?_⟩
 ·by_cases e:i=s.H.length
  ·subst e
   simp at hi
   obtain ⟨rfl,rfl⟩:=hi
   exact ⟨fun b=>by simp,cs,ty,hc,hn,hf⟩
  ·have hi':s.H[i]?=some (q,r):=by
    rcases Gs i s.H.length with h4|h4
    ·rwa [FR h4] at hi
    ·rw [GL (by simp;omega)] at hi;cases hi
   have e2:(fun b=>if i=s.H.length then b=g else fp i b)=fp i:=funext fun b=>by simp [e]
   show r.rep G.al St w' (fun b=>if i=s.H.length then b=g else fp i b) q
   rw [e2]
   exact av.rep_evo he (fun _ x=>x) (fun b hF=>hb.block b (hp.own i b hF).1) (hp.rep i q r hi')
 ·by_cases e1:i=s.H.length<;>by_cases e2:j=s.H.length
  omega
  ·simp only [e1,e2,if_true,if_false] at h2 h3;subst h2;exact absurd h3 (hnew j)
  ·simp only [e1,e2,if_true,if_false] at h2 h3;subst h3;exact absurd h2 (hnew i)
  ·simp only [e1,e2,if_false] at h2 h3;exact hp.dis i j b h2 h3
 ·by_cases e:i=s.H.length
  ·simp only [e,if_true] at h2
   subst h2
   exact ⟨hlt,fun hs=>by have:=h.s3 _ hs;omega,.inl (Gm h.un.size hg)⟩
  ·simp only [e,if_false] at h2
   have ⟨h3,h4,h5⟩:=hp.own i b h2
   exact ⟨Ge h3 hb.size,h4,h5⟩
 ·have e:i≠s.H.length:=by simp at hi;omega
  simp only [e,if_false] at h2
  exact hp.out i (by simp at hi;omega) b h2
theorem bk (w:World) (x:Obj):Below w.heap.size w (w.alloc x):=(Below.refl _ _).alloc (FQ _) _
theorem eG.new {n:Nat} {f:Nat→CV} (hd:aJ G o=true) (v:Option Nat→CV)
  (h:∀ St a w,ab G St s a w→∃ w' g cs ty x,(execOp a.eval o).run P w=.ok (.value x) w'∧Below w.heap.size w w'∧w.heap.size≤g∧w'.heap[g]?=some (.cells cs ty (0,0))∧n≤cs.size∧(∀ j,j<n→ai G.al St w' (f j) (cs.getD j undef))∧ai G.al St w' (v (some g)) x)
  (hK:∀ g,K (s.with o.dst (v g) (s.H++[(g,.blk n f)]))):eG P G o s K:=fun St a w hr Q=>by
 have ⟨w',g,cs,ty,x,h1,h2,h3,h4,h5,h6,h7⟩:=h St a w hr
 unfold Oper.wp
 rw [h1]
 refine ⟨h2,St,fun _ h=>h,_,hK (some g),?_⟩
 have:=(hr.fresh h2 h3 h4 h5 h6).put (dst:=o.dst) (v:=v (some g)) (x:=x) (bA hd) h7
 cases ho:o.dst with
 | none=>rw [ho] at this;exact this
 | some d=>rw [ho] at this;exact this
theorem xt {z:Value} {n:Nat} (ho:o.op=.alloc t) (hz:(P.info? t).map (·.zero)=some (some z)) (hn:z.cells.size=n) (hd:aJ G o=true)
  (hK:∀ g,K (s.with o.dst (.op s.H.length g 0) (s.H++[(g,.blk n fun j=>.c (z.cells.getD j undef))]))):eG P G o s K :=
 eG.new hd (fun g=>.op s.H.length g 0) (fun St a w hr=>by
  have ⟨info,hi,hz⟩:=FM.1 hz
  refine ⟨w.alloc (.cells z.cells t),w.heap.size,z.cells,t,.pointer (some ⟨w.heap.size,0,none⟩),?_,bk w _,FQ _,heap_alloc_new w _,by omega,fun j _=>rfl,_,rfl,rfl⟩
  simp only [execOp,ho]
  refine iz ?_
  simp [Instr.alloc,zeroValue,typeInfo,hi,hz,newVar,newRow]) hK
def bC:CV→Option (List CV)
 | .agg n f=>some ((List.range n).map f)
 | .c (.tuple _)=>none
 | .c v=>some (v.cells.toList.map .c)
 | .top=>none
 | .tup _ _=>none
 | x=>some [x]
def o9 (al:List Addr) (St:Nat→Prop) (w:World) (l:List CV) (cs:Array Value):Prop:=cs.size=l.length∧∀ i,i<l.length→ai al St w (fl l i) (cs.getD i undef)
theorem bz:∀ (l:List CV) (i:Nat),fl l i=l.getD i .top
 | [],i=>by simp [fl]
 | x::r,0=>rfl
 | x::r,i+1=>by rw [fl,bz r i];simp
theorem dN {al:List Addr} {St:Nat→Prop} {w:World} {c:CV} {v:Value} (h:ai al St w c v):o9 al St w [c] #[v] :=
 ⟨rfl,fun i hi=>by
  have:i=0:=by simp at hi;omega
  subst this
  exact h⟩
theorem kA {al:List Addr} {St:Nat→Prop} {w:World}:∀ {c:CV} {v:Value} {l:List CV},ai al St w c v→bC c=some l→o9 al St w l v.cells
 | .agg n f,v,l,⟨cs,h1,h2,h3⟩,hc=>by
  simp only [bC,F8] at hc
  subst hc h1
  refine ⟨by simp [Value.cells,h2],fun i hi=>?_⟩
  have hi:i<n:=by simpa using hi
  rw [bz]
  have:=h3 i hi
  simpa [Value.cells,hi,List.getD] using this
 | .c u,v,l,h,hc=>by
  have h:v=u:=h
  subst h
  have key:∀ l',bC (.c v)=some l'→l'=v.cells.toList.map .c:=by
   intro l' h'
   cases v<;>simp [bC] at h'<;>exact h'.symm
  rw [key l hc]
  refine ⟨by simp,fun i hi=>?_⟩
  have hi:i<v.cells.size:=by simpa using hi
  rw [bz]
  simp [List.getD,hi]
  rfl
 | .err n,v,l,h,hc=>by
  simp only [bC,F8] at hc
  subst hc
  have h':v=ev al n:=h
  have e:v.cells=#[v]:=by subst h';unfold ev;split<;>rfl
  rw [e]
  exact dN (c:=.err n) h
 | .rs k n f,v,l,h,hc=>by
  simp only [bC,F8] at hc
  subst hc
  have e:v.cells=#[v]:=by have ⟨ao,cap,h1,_⟩:=h;subst h1;rfl
  rw [e]
  exact dN (c:=.rs k n f) h
 | .rp n f,v,l,h,hc=>by
  simp only [bC,F8] at hc
  subst hc
  have e:v.cells=#[v]:=by have ⟨b,q,h1,_⟩:=h;subst h1;rfl
  rw [e]
  exact dN (c:=.rp n f) h
 | .os i none off n k,v,l,h,hc=>by
  simp only [bC,F8] at hc
  subst hc
  have e:v.cells=#[v]:=by rw [h.2];rfl
  rw [e]
  exact dN (c:=.os i none off n k) h
 | .os i (some g) off n k,v,l,h,hc=>by
  simp only [bC,F8] at hc
  subst hc
  have e:v.cells=#[v]:=by have ⟨cap,h1,_⟩:=h;rw [h1];rfl
  rw [e]
  exact dN (c:=.os i (some g) off n k) h
 | .op i g off,v,l,h,hc=>by
  simp only [bC,F8] at hc
  subst hc
  have e:v.cells=#[v]:=by have ⟨b,_,h1⟩:=h;rw [h1];rfl
  rw [e]
  exact dN (c:=.op i g off) h
 | .pv p,v,l,h,hc=>by
  simp only [bC,F8] at hc
  subst hc
  rw [(p.one h).1]
  exact dN (c:=.pv p) h
 | .fn g n f,v,l,h,hc=>by
  simp only [bC,F8] at hc
  subst hc
  have e:v.cells=#[v]:=by have ⟨cs,h1,_⟩:=h;rw [h1];rfl
  rw [e]
  exact dN (c:=.fn g n f) h
theorem Ct {n:Nat} {c:CV} {l:List CV} (ho:o.op=.box t x) (I:s.eval x=c) (hl:bC c=some l) (hn:l.length=n) (hd:aJ G o=true)
  (hK:∀ g,K (s.with o.dst (.op s.H.length g 0) (s.H++[(g,.blk n (fl l))]))):eG P G o s K :=
 eG.new hd (fun g=>.op s.H.length g 0) (fun St a w hr=>by
  have hr':=kA (c7 hr I) hl
  refine ⟨w.alloc (.cells (a.eval x).cells t),w.heap.size,(a.eval x).cells,t,.pointer (some ⟨w.heap.size,0,none⟩),?_,bk w _,FQ _,heap_alloc_new w _,by rw [hr'.1];omega,fun j hj=>?_,_,rfl,rfl⟩
  ·simp only [execOp,ho]
   refine iz ?_
   simp [Instr.box,newVar,newRow]
  exact ai.evo (k9.of_below (bk w _) hr.s3) (fun _ h=>h) _ _ (hr'.2 j O)) hK
def pu:List CV→Nat→List CV→List CV
 | cs,_,[]=>cs
 | cs,i,x::r=>pu (cs.set i x) (i+1) r
def kP (place:Nat→Option (Nat×Nat)):List CV→List (Nat×CV)→Option (List CV)
 | cs,[]=>some cs
 | cs,(i,v)::r =>
  match place i,bC v with
  | some (off,size),some l=>if l.length≠size || off+l.length>cs.length then none else kP place (pu cs off l) r
  | _,_=>none
theorem vK {al:List Addr} {St:Nat→Prop} {w:World} {l:List CV} {cs:Array Value} {c:CV} {v:Value} (h:o9 al St w l cs) (i:Nat) (hv:ai al St w c v):o9 al St w (l.set i c) (cs.setIfInBounds i v):=by
 refine ⟨by simp [h.1],fun j hj=>?_⟩
 have hj:j<l.length:=by simpa using hj
 rw [bz]
 have hjc:j<cs.size:=by rw [h.1];exact hj
 by_cases e:i=j
 ·subst e
  simp [List.getD,hj,hjc]
  exact hv
 ·have:=h.2 j hj
  rw [bz] at this
  simp [List.getD,e,Gd] at this ⊢
  exact this
theorem lN {al:List Addr} {St:Nat→Prop} {w:World}:∀ (vs:List Value) (ls:List CV) (l:List CV) (cs:Array Value) (off j:Nat),o9 al St w l cs→vs.length=ls.length→(∀ i,i<ls.length→ai al St w (fl ls i) (vs.getD i undef)) →
  o9 al St w (pu l (off+j) ls) ((vs.zipIdx j).foldl (fun cs (c,j)=>cs.setIfInBounds (off+j) c) cs)
 | [],[],_,_,_,_,h,_,_=>h
 | [],_::_,_,_,_,_,_,hl,_=>by simp at hl
 | _::_,[],_,_,_,_,_,hl,_=>by simp at hl
 | v::vs,c::ls,l,cs,off,j,h,hl,hv=>by
  simp only [pu,List.zipIdx_cons,List.foldl_cons]
  have h0:=hv 0 (by simp)
  have:=lN vs ls (l.set (off+j) c) (cs.setIfInBounds (off+j) v) off (j+1) (vK h _ h0) (by simpa using hl) (fun i hi=>by
   have:=hv (i+1) (by simp;omega)
   simpa [fl] using this)
  rw [← HU] at this
  exact this
theorem l9 {al:List Addr} {St:Nat→Prop} {w:World} {place:Nat→Option (Nat×Nat)}:∀ (ps:List (Nat×Value)) (qs:List (Nat×CV)) (l:List CV) (cs:Array Value) (l':List CV),o9 al St w l cs→ps.length=qs.length →
  (∀ i,i<qs.length→(ps.getD i (0,undef)).1=(qs.getD i (0,.top)).1∧ai al St w (qs.getD i (0,.top)).2 (ps.getD i (0,undef)).2)→kP place l qs=some l'→∃ cs',Instr.fill place cs ps=some cs'∧o9 al St w l' cs'
 | [],[],l,cs,l',h,_,_,hf=>by
  simp only [kP,F8] at hf
  subst hf
  exact ⟨cs,rfl,h⟩
 | [],_::_,_,_,_,_,hl,_,_=>by simp at hl
 | _::_,[],_,_,_,_,hl,_,_=>by simp at hl
 |(i,v)::ps,(j,c)::qs,l,cs,l',h,hl,hv,hf=>by
  obtain ⟨h1,h2⟩:=hv 0 (by simp)
  simp at h1 h2
  subst h1
  rw [kP] at hf
  split at hf
  ·rename_i off size ls hp hc
   split at hf
   ·cases hf
   ·rename_i hcond
    simp at hcond
    have hr:=kA h2 hc
    obtain ⟨cs',h3,h4⟩:=l9 (place:=place) ps qs (pu l off ls) (v.cells.zipIdx.foldl (fun cs (c,j)=>cs.setIfInBounds (off+j) c) cs) l' (by
     have:=lN (al:=al) (St:=St) (w:=w) v.cells.toList ls l cs off 0 h (by simpa using hr.1) (fun i hi=>by
      have:=hr.2 i hi
      simpa [List.getD] using this)
     rw [GV] at this
     rw [← Array.foldl_toList,Array.toList_zipIdx]
     exact this) (by simpa using hl) (fun i hi=>by
      have:=hv (i+1) (by simp;omega)
      simpa using this) hf
    refine ⟨cs',?_,h4⟩
    rw [Instr.fill]
    simp only [hp]
    rw [FN (by simp [hr.1,h.1];omega)]
    exact h3
  ·cases hf
def mI (P:Program) (t:TypeId):Option (List (Nat×Nat)):=match P.underlying t with
 | some (.struct fs)=>fs.toList.mapM fun f=>(P.info? f.type).map fun i=>(f.offset,i.size)
 | _=>none
theorem lL:∀ (fs:List Field) (pl:List (Nat×Nat)) (W:World),(fs.mapM fun f=>(P.info? f.type).map fun i=>(f.offset,i.size))=some pl→(fs.mapM fun f=>do pure (f.offset,← sizeOf f.type):Sem (List (Nat×Nat))).run P W=.ok pl W
 | [],pl,W,h=>by simp at h;subst h;rfl
 | f::fs,pl,W,h=>by
  simp only [List.mapM_cons,Option.bind_eq_bind,HX] at h
  have ⟨a,ha,pl',h2,h3⟩:=h
  obtain ⟨info,hi,rfl⟩:=FM.1 ha
  have ih:=lL fs pl' W h2
  simp at h3
  subst h3
  simp [List.mapM_cons,sizeOf,typeInfo,hi] at ih ⊢
  rw [ih]
  rfl
theorem aC {z:Value} {pl:List (Nat×Nat)} {parts:Array (Nat×Operand)} {l:List CV} {n:Nat} (ho:o.op=.build t parts) (hz:(P.info? t).map (·.zero)=some (some z)) (hp:mI P t=some pl)
  (hf:kP (pl[·]?) (z.cells.toList.map .c) (parts.toList.map fun p=>(p.1,s.eval p.2))=some l) (hn:l.length=n):aN P G o s (.agg n (fl l)):=fun St a w h=>by
 have ⟨info,hi,hz⟩:=FM.1 hz
 unfold mI at hp
 split at hp
 ·rename_i fs hu
  obtain ⟨cs',h1,h2⟩:=l9 (al:=G.al) (St:=St) (w:=w) (parts.toList.map fun p=>(p.1,a.eval p.2)) _ (z.cells.toList.map .c) z.cells l ⟨by simp,fun i hi=>by
    have hi:i<z.cells.size:=by simpa using hi
    rw [bz];simp [List.getD,hi];rfl⟩ (by simp) (fun i hi=>by
    have hi:i<parts.size:=by simpa using hi
    simp [List.getD,hi]
    exact h.eval _) hf
  refine ⟨.agg cs',fun W _=>?_,cs',rfl,by rw [h2.1,hn],fun i hi=>h2.2 i O⟩
  simp only [execOp,ho]
  refine iz ?_
  have hr:=lL (P:=P) fs.toList pl W hp
  have e:(fs.mapM fun f=>do pure (f.offset,← sizeOf f.type):Sem (Array (Nat×Nat))).run P W=.ok pl.toArray W:=by
   rw [Array.mapM_eq_mapM_toList]
   simp only [Sem.run_map,hr,Result.andThen_ok]
  simp only [Instr.build,zeroValue,typeInfo,Sem.run_bind,run_program,Result.andThen_ok,hi,Sem.run_pure,hz,underlying,hu,e]
  have h1':Instr.fill (fun x=>pl.toArray[x]?) z.cells (parts.map fun p=>(p.1,a.eval p.2)).toList=some cs':=by simpa using h1
  simp only [h1',Sem.run_pure]
 ·cases hp
theorem mN {e:TypeId} {z:Value} {len m:Nat} {parts:Array (Nat×Operand)} {l:List CV} {n:Nat} (ho:o.op=.buildSlice t len parts) (h1:P.underlying t=some (.slice e)) (h5:(P.info? e).map (·.size)=some m) (hz:(P.info? e).map (·.zero)=some (some z))
  (hm:Nat.ble (len * m) 16777216=true) (hlen:Nat.ble len 16777216=true) (hf:kP (fun i=>some (i * m,m)) ((List.range (len * m)).map fun i=>.c (z.cells[i % z.cells.size]!)) (parts.toList.map fun p=>(p.1,s.eval p.2))=some l) (hn:l.length=n) (hle:n=len * m) (hd:aJ G o=true)
  (hK:∀ g,K (s.with o.dst (.os s.H.length g 0 len m) (s.H++[(g,.blk n (fl l))]))):eG P G o s K :=
 eG.new hd (fun g=>.os s.H.length g 0 len m) (fun St a w hr=>by
  have ⟨info,hi,h6⟩:=FM.1 h5
  have ⟨info',hi',hz⟩:=FM.1 hz
  obtain rfl:=Ga (hi.symm.trans hi')
  have hm':len * m≤16777216:=FS hm
  let zs:Array Value:=if len * m=0 then #[] else z.cells
  obtain ⟨cs',h2,h3⟩:=l9 (al:=G.al) (St:=St) (w:=w) (parts.toList.map fun p=>(p.1,a.eval p.2)) _ _ ((Array.range (len * m)).map (z.cells[· % z.cells.size]!)) l ⟨by simp,fun i hi=>by
    have hi:i<len * m:=by simpa using hi
    rw [bz];simp [List.getD,hi];rfl⟩ (by simp) (fun i hi=>by
    have hi:i<parts.size:=by simpa using hi
    simp [List.getD,hi]
    exact hr.eval _) hf
  refine ⟨w.alloc (.cells cs' e),w.heap.size,cs',e,.slice (some ⟨w.heap.size,0,none⟩) len len,?_,bk w _,FQ _,heap_alloc_new w _,by rw [h3.1];omega,fun j hj=>?_,len,rfl,FQ _,?_,cs',e,(0,0),heap_alloc_new w _,?_⟩
  ·simp only [execOp,ho]
   refine iz ?_
   have e0:(Array.range (len * m)).map (zs[· % zs.size]!)=(Array.range (len * m)).map (z.cells[· % z.cells.size]!):=by
    by_cases h0:len * m=0
    ·simp [h0]
    ·simp only [zs,h0,if_false]
   have h2':Instr.fill (fun i=>some (i * m,m)) ((Array.range (len * m)).map (zs[· % zs.size]!)) (parts.map fun p=>(p.1,a.eval p.2)).toList=some cs':=by rw [e0];simpa using h2
   simp only [Instr.buildSlice,underlying,Sem.run_bind,run_program,Result.andThen_ok,h1,Sem.run_pure,sizeOf,typeInfo,hi,h6]
   rw [FN (show ¬ len * m>2 ^ 24 by omega)]
   by_cases h0:len * m=0
   ·simp only [h0,if_true] at h2' ⊢
    simp only [zs,h0,if_true] at h2'
    simp only [Sem.run_bind,Sem.run_pure,Result.andThen_ok,h2',newRow,run_newObj,World.alloc_eq]
   ·simp only [FN h0,Sem.run_bind,zeroValue,typeInfo,run_program,Result.andThen_ok,hi,hz,Sem.run_pure]
    simp only [zs,FN h0] at h2'
    simp only [h2',Sem.run_bind,newRow,run_newObj,Sem.run_pure,Result.andThen_ok,World.alloc_eq]
  exact ai.evo (k9.of_below (bk w _) hr.s3) (fun _ h=>h) _ _ (h3.2 j O)
  ·have:=FS hlen;omega
  ·rw [h3.1];omega) hK
def aU (P : Program) (f : FuncId) : Bool := match P.funcs[f]? with | some fn => fn.body.isSome && !(fn.name == "runtime.NumGoroutine") | none => false
theorem jQ {f:FuncId} (hc:aU P f=true) (args:Array Value) (W:World):(callFunc f args).run P W=.ok (.enter f args) W:=by
 unfold aU at hc
 split at hc
 ·rename_i fn hf
  simp only [FK,Hm] at hc
  have ⟨h1,h2⟩:=hc
  have h3:fn.body.isNone=false:=by cases hb:fn.body<;>simp_all
  have h4 : ¬ fn.name = "runtime.NumGoroutine" := by simpa using h2
  have h5:¬ fn.body=none:=fun h=>by rw [h] at h1;cases h1
  simp [callFunc,hf,h4,h5]
 ·cases hc
theorem nL {f:FuncId} {xs:Array Operand} {ats:Array TypeId} (ho:o.op=.call ⟨.value (.func f),xs,ats⟩) (hc:aU P f=true) (a:Act) (W:World) :
  (execOp a.eval o).run P W=.ok (.enter f (xs.map a.eval)) W:=by
 have e:a.eval (.func f)=.func (.func f) #[] #[]:=rfl
 simp [execOp,ho,resolve,e,Deferred.ofValue,invoke,jQ hc]
theorem me {f:FuncId} {v:Operand} {cs:Array Value} {xs:Array Operand} {ats:Array TypeId} (ho:o.op=.call ⟨.value v,xs,ats⟩) (hc:aU P f=true) (a:Act) (hv:a.eval v=.func (.func f) #[] cs) (W:World) :
  (execOp a.eval o).run P W=.ok (.enter f (xs.map a.eval++cs)) W:=by
 simp [execOp,ho,resolve,hv,Deferred.ofValue,invoke,jQ hc]
theorem qu {l m:List CV} (h:iX l m):l.length=m.length:=by
 induction h with
 | nil=>rfl
 | cons _ _ ih=>simp [ih]
theorem qv {l m:List CV} (h:iX l m):∀ i,J (fl l i) (fl m i):=by
 induction h with
 | nil=>exact fun i=>cZ
 | cons h1 _ ih =>
  intro i
  cases i with
  | zero=>exact h1
  | succ i=>exact ih i
theorem nJ (l m:List CV) (i:Nat):fl (l++m) i=if i<l.length then fl l i else fl m (i-l.length):=by
 rw [bz,bz,bz]
 split
 ·rename_i h;simp [List.getD,FR h]
 ·rename_i h;simp [List.getD,FZ (Nat.le_of_not_lt h)]
theorem ab.after {St St':Nat→Prop} {a:Act} {w w':World} (h:ab G St s a w) {H':List (Option Nat×av)} (hu:d6 (fun _=>False) w w') (h1:∀ b,St b→St' b) (h2:∀ b,St' b→St b∨w.heap.size≤b∨False) (h3:∀ b,St' b→b<w'.heap.size) (hp':a6 G.al St' w' w.heap.size (fun _=>False) H') :
  ab G St' ⟨s.env,s.b,s.H++H'⟩ a w':=by
 have hb:=hu.below
 have he:k9 St w w':=k9.of_below hb h.s3
 have ⟨fp,hp⟩:=h.hp
 have ⟨fp',hp'⟩:=hp'
 refine ⟨h.df.keep h1 (fun b hb'=>hb.block b (h.s3 b hb')),h.sz,fun d=>ai.evo he h1 _ _ (h.env d),h.un.then hb,fun b hs=>h1 b (h.s1 b hs),fun b hs=>?_,h3,?_,?_,fun g hg=>h1 g (h.sg.1 g hg),fun x I=>h1 _ (h.sg.2 x I)⟩
 ·rcases h2 b hs with hs|hs|hs
  exact h.s2 b hs
  exact .inr (.inl (Gm h.un.size hs))
  exact hs.elim
 ·refine ⟨fun i b=>(i<s.H.length∧fp i b)∨(s.H.length≤i∧fp' (i-s.H.length) b),fun i q r hi=>?_,fun i j b hi hj=>?_,fun i b hi=>?_,fun i hi b hb'=>?_⟩
  ·by_cases hl:i<s.H.length
   ·rw [FR hl] at hi
    have e:(fun b=>(i<s.H.length∧fp i b)∨(s.H.length≤i∧fp' (i-s.H.length) b))=fp i:=funext fun b=>propext ⟨fun h=>h.elim (fun h=>h.2) (fun h=>by omega),fun h=>.inl ⟨hl,h⟩⟩
    show r.rep G.al St' w' (fun b=>(i<s.H.length∧fp i b)∨(s.H.length≤i∧fp' (i-s.H.length) b)) q
    rw [e]
    exact av.rep_evo he h1 (fun b hF=>hb.block b (hp.own i b hF).1) (hp.rep i q r hi)
   ·rw [FZ O] at hi
    have e:(fun b=>(i<s.H.length∧fp i b)∨(s.H.length≤i∧fp' (i-s.H.length) b))=fp' (i-s.H.length):=funext fun b=>propext ⟨fun h=>h.elim (fun h=>by omega) (fun h=>h.2),fun h=>.inr ⟨by omega,h⟩⟩
    show r.rep G.al St' w' (fun b=>(i<s.H.length∧fp i b)∨(s.H.length≤i∧fp' (i-s.H.length) b)) q
    rw [e]
    exact hp'.rep _ q r hi
  ·rcases hi with ⟨a1,a2⟩|⟨a1,a2⟩<;>rcases hj with ⟨b1,b2⟩|⟨b1,b2⟩
   exact hp.dis i j b a2 b2
   ·have c1:=(hp.own i b a2).1
    rcases (hp'.own _ b b2).2.2 with c2|c2
    omega
    exact c2.elim
   ·have c1:=(hp.own j b b2).1
    rcases (hp'.own _ b a2).2.2 with c2|c2
    omega
    exact c2.elim
   ·have:=hp'.dis _ _ b a2 b2
    omega
  ·rcases hi with ⟨a1,a2⟩|⟨a1,a2⟩
   ·have ⟨c1,c2,c3⟩:=hp.own i b a2
    refine ⟨Ge c1 hb.size,fun hs=>?_,c3⟩
    rcases h2 b hs with hs|hs|hs
    exact c2 hs
    omega
    exact hs
   ·obtain ⟨c1,c2,c3⟩:=hp'.own _ b a2
    refine ⟨c1,c2,.inl ?_⟩
    rcases c3 with c3|c3
    exact Gm h.un.size c3
    exact c3.elim
  ·rcases hb' with ⟨a1,_⟩|⟨a1,a2⟩
   ·simp at hi;omega
   exact hp'.out _ (by simp at hi;omega) b a2
 exact cd.keep h.sn (fun g hg=>hb.block g (h.s3 _ (h.sg.1 g hg))) (fun x I=>hb.block _ (h.s3 _ (h.sg.2 x I)))
theorem xw {St:Nat→Prop} {a:Act} {w:World} (h:ab G St s a w):tj G.gs G.al St (fun _=>False) [] w :=
 ⟨h.s3,h.sn,h.sg,⟨fun _ _=>False,fun i g r hi=>by simp at hi,fun _ _ _ h=>h.elim,fun _ _ h=>h.elim,fun _ _ _ h=>h⟩,fun _ h=>h.elim⟩
theorem xq {f:FuncId} {v:Operand} {n:Nat} {fv:Nat→CV} {xs:Array Operand} {ats:Array TypeId} {args:List CV} {Q:CV→List (Option Nat×av)→Prop} (ho:o.op=.call ⟨.value v,xs,ats⟩) (hv:s.eval v=.fn f n fv) (hc:aU P f=true) (he:iX (xs.toList.map s.eval++(List.range n).map fv) args) (hA:AC G.gs P f [] args Q) (hd:aJ G o=true)
  (hK:∀ r H',Q r H'→K (s.with o.dst r (s.H++H'))):eG P G o s K:=fun St a w hr Q'=>by
 have ⟨cs,hcs,hn,hf⟩:=c7 hr hv
 unfold Oper.wp
 rw [me ho hc a hcs]
 have hl:=qu he
 simp at hl
 refine (hA G.al w St _ _ (xw hr) (by simp [hn,hl]) (fun i=>?_)).mono ?_
 ·by_cases hi:i<args.length
  ·refine qv he i _ _ _ _ ?_
   rw [nJ]
   by_cases h1:i<xs.size
   ·rw [FO (by simpa using h1),bz]
    simp [List.getD,h1,Gp]
    exact hr.eval _
   ·rw [FN (by simpa using h1),bz]
    have h2:i-xs.size<n:=by omega
    have:=hf _ h2
    simp [List.getD,h2,Hc (show (xs.map a.eval).size≤i by simp;omega)] at this ⊢
    exact this
  ·rw [jn args i O];trivial
 rintro e w' ⟨v,r,H',St',rfl,hq,hv,hu,h3,h4,h5,h6⟩
 refine ⟨hu.below,St',h3,_,hK r H' hq,?_⟩
 have:=(hr.after hu h3 h4 h5 h6).put (dst:=o.dst) (bA hd) hv
 cases ho:o.dst with
 | none=>rw [ho] at this;exact this
 | some d=>rw [ho] at this;exact this
theorem bY {r:List Oper} {s':AS} (he:aZ G s s') (h:bm P G ops r s' K):bm P G ops r s K:=fun a w hr Q hQ=>h a w (he.rel hr) Q hQ
theorem iy {tr:bu} {s':AS} (he:aZ G s s') (h:AX P G ops tr s' K):AX P G ops tr s K:=fun a w hr Q R hQ=>h a w (he.rel hr) Q R hQ
theorem mX {tr:bu} {s':AS} (he:aZ G s s') (h:AZ P G ops tr s' K):AZ P G ops tr s K:=fun St a w hr Q hQ=>by
 have ⟨S1,h1,h2⟩:=he St a w hr
 have ⟨S2,h3,h4⟩:=h S1 a w h2 Q hQ
 exact ⟨S2,fun b hb=>h3 b (h1 b hb),h4⟩
theorem freeze (i:Nat) {g:Option Nat} {n:Nat} {f:Nat→CV} (hH:s.H[i]?=some (g,.blk n f)):aZ G s ⟨s.env,s.b,s.H.set i (g,.frz n f)⟩:=fun St a w h=>by
 have ⟨fp,hp⟩:=h.hp
 have hlt:i<s.H.length:=(FL.1 hH).1
 have hrep:=hp.rep i g _ hH
 refine ⟨fun b=>St b∨fp i b,fun _ h=>.inl h,?_⟩
 have he:k9 St w w:=⟨fun _ _ _ _ _ h=>h,fun b cur t z h=>⟨cur,z,h,rfl⟩⟩
 have hs:∀ b,St b→St b∨fp i b:=fun _ h=>.inl h
 refine ⟨h.df.grow hs,h.sz,fun d=>ai.evo he hs _ _ (h.env d),h.un,fun b hb=>.inl (h.s1 b hb),fun b hb=>?_,fun b hb=>?_,?_,h.sn,fun g hg=>.inl (h.sg.1 g hg),fun x I=>.inl (h.sg.2 x I)⟩
 ·rcases hb with hb|hb
  exact h.s2 b hb
  exact .inr (hp.own i b hb).2.2
 ·rcases hb with hb|hb
  exact h.s3 b hb
  exact (hp.own i b hb).1
 ·refine ⟨fun j b=>j≠i∧fp j b,fun j q r hj=>?_,fun j l b h1 h2=>hp.dis j l b h1.2 h2.2,fun j b h1=>?_,fun j hj b h1=>hp.out j (by simpa using hj) b h1.2⟩
  ·by_cases e:j=i
   ·subst e
    simp [hlt] at hj
    obtain ⟨rfl,rfl⟩:=hj
    cases g with
    | none=>exact ⟨hrep.1,fun b hb=>absurd rfl hb.1⟩
    | some g =>
     have ⟨h0,cur,t,h1,h2,h3⟩:=hrep
     exact ⟨fun b hb=>absurd rfl hb.1,.inr ((h0 g).2 rfl),cur,t,_,h1,h2,fun m hm=>ai.evo he hs _ _ (h3 m hm)⟩
   ·rw [FU (Ne.symm e)] at hj
    have e2:(fun b=>j≠i∧fp j b)=fp j:=funext fun b=>propext ⟨fun h=>h.2,fun h=>⟨e,h⟩⟩
    show r.rep G.al _ w (fun b=>j≠i∧fp j b) q
    rw [e2]
    exact av.rep_evo he hs (fun _ _=>rfl) (hp.rep j q r hj)
  ·have ⟨h2,h3,h4⟩:=hp.own j b h1.2
   exact ⟨h2,fun hb=>hb.elim h3 fun hb=>h1.1 (hp.dis j i b h1.2 hb),h4⟩
theorem aZ.put {d:Nat} {v:CV} (hd:Nat.blt d G.N=true) (h:∀ St a w,ab G St s a w→ai G.al St w v (a.tmps.getD d undef)):aZ G s ⟨(d,v)::s.env,s.b,s.H⟩:=fun St a w hr=>by
 refine ⟨St,fun _ h=>h,hr.df,hr.sz,fun e=>?_,hr.un,hr.s1,hr.s2,hr.s3,hr.hp,hr.sn,hr.sg⟩
 by_cases hde:d=e
 ·subst hde;rw [bw];exact h St a w hr
 ·rw [aQ _ _ _ hde];exact hr.env e
theorem ck (d:Nat) (v:CV) (h:J (look s.env s.b d) v):aZ G s ⟨(d,v)::s.env,s.b,s.H⟩:=fun St a w hr=>by
 refine ⟨St,fun _ h=>h,hr.df,hr.sz,fun e=>?_,hr.un,hr.s1,hr.s2,hr.s3,hr.hp,hr.sn,hr.sg⟩
 by_cases hde:d=e
 ·subst hde;rw [bw];exact h _ _ _ _ (hr.env d)
 ·rw [aQ _ _ _ hde];exact hr.env e
theorem jI (d:Nat) {i off n m N:Nat} {g:Option Nat} {F:Nat→CV} (f:Nat→Nat→CV) (hl:look s.env s.b d=.os i g off n m) (hH:s.H[i]?=some (g,.frz N F)) (hN:off+n * m≤N) (hf:∀ a b,a<n→b<m→J (F (off+(a * m+b))) (f a b)) :
  aZ G s ⟨(d,.rs m n f)::s.env,s.b,s.H⟩:=fun St a w hr=>by
 refine ⟨St,fun _ h=>h,hr.df,hr.sz,fun e=>?_,hr.un,hr.s1,hr.s2,hr.s3,hr.hp,hr.sn,hr.sg⟩
 by_cases hde:d=e
 ·subst hde
  rw [bw]
  have he:=hr.env d
  rw [hl] at he
  cases g with
  | none =>
   have ⟨h1,h2⟩:=he
   subst h1
   exact ⟨none,0,h2,FQ _,by decide,fun _=>rfl,fun _ h=>by cases h⟩
  | some g =>
   have ⟨cap,h1,h2,h3,_⟩:=he
   have ⟨fp,hp⟩:=hr.hp
   obtain ⟨_,hg,cur,t,z,hh,hle,hc⟩:=hp.rep i (some g) _ hH
   refine ⟨_,cap,h1,h2,h3,(fun h=>by cases h),fun ad ha _=>?_⟩
   cases ha
   refine ⟨rfl,hg,fun p q hp' hq=>?_⟩
   have hb:p * m+q<n * m:=by
    have:p * m+m≤n * m:=by rw [← H3];exact Gr _ hp'
    omega
   have hlt:off+(p * m+q)<cur.size:=by omega
   refine ⟨cur.getD (off+(p * m+q)) undef,?_,hf p q hp' hq _ _ _ _ (hc _ O)⟩
   show w.cell? ⟨g,off+(p * m+q),none⟩=_
   rw [cell_of_row w g _ cur t z hh];simp [hlt]
 ·rw [aQ _ _ _ hde];exact hr.env e
theorem f8 (d:Nat) {i off m N:Nat} {g:Option Nat} {F:Nat→CV} (hl:look s.env s.b d=.op i g off) (hH:s.H[i]?=some (g,.frz N F)) (hN:off+m≤N) :
  aZ G s ⟨(d,.rp m fun j=>F (off+j))::s.env,s.b,s.H⟩:=fun St a w hr=>by
 refine ⟨St,fun _ h=>h,hr.df,hr.sz,fun e=>?_,hr.un,hr.s1,hr.s2,hr.s3,hr.hp,hr.sn,hr.sg⟩
 by_cases hde:d=e
 ·subst hde
  rw [bw]
  have he:=hr.env d
  rw [hl] at he
  obtain ⟨b,rfl,he⟩:=he
  have ⟨fp,hp⟩:=hr.hp
  obtain ⟨_,hg,cur,t,z,hh,hle,hc⟩:=hp.rep i (some b) _ hH
  refine ⟨b,off,he,hg,fun j hj=>?_⟩
  have hlt:off+j<cur.size:=by omega
  refine ⟨cur.getD (off+j) undef,?_,hc _ O⟩
  rw [cell_of_row w b _ cur t z hh];simp [hlt]
 ·rw [aQ _ _ _ hde];exact hr.env e
def dx:CV→Bool
 | .c v=>v.oneCell'
 | .err _|.rs _ _ _|.rp _ _|.os _ _ _ _ _|.op _ _ _|.fn _ _ _|.pv _=>true
 | _=>false
theorem lV {al:List Addr} {St:Nat→Prop} {w:World}:∀ {c:CV} {v:Value},dx c=true→ai al St w c v→v.oneCell'=true
 | .c u,v,hl,h=>by
  have h:v=u:=h
  rw [h];exact hl
 | .err n,v,_,h=>by
  have h:v=ev al n:=h
  rw [h];unfold ev;split<;>rfl
 | .rs _ _ _,v,_,⟨_,_,h,_⟩=>by rw [h];rfl
 | .rp _ _,v,_,⟨_,_,h,_⟩=>by rw [h];rfl
 | .os _ none _ _ _,v,_,h=>by rw [h.2];rfl
 | .os _ (some _) _ _ _,v,_,⟨_,h,_⟩=>by rw [h];rfl
 | .op _ _ _,v,_,⟨_,_,h⟩=>by rw [h];rfl
 | .fn _ _ _,v,_,⟨_,h,_⟩=>by rw [h];rfl
 | .pv p,v,_,h=>(p.one h).2
theorem ab.write {St:Nat→Prop} {a:Act} {w:World} (h:ab G St s a w) {i g n n':Nat} {f f':Nat→CV} (hH:s.H[i]?=some (some g,.blk n f)) {cur cs:Array Value} {ty:TypeId} (hc:w.heap[g]?=some (.cells cur ty (0,0))) (hs:cs.size=cur.size)
  (hn:n'≤cs.size) (hf:∀ j,j<n'→ai G.al St w (f' j) (cs.getD j undef)):ab G St ⟨s.env,s.b,s.H.set i (some g,.blk n' f')⟩ a (w.setRow g cs):=by
 have ⟨fp,hp⟩:=h.hp
 have hlt:i<s.H.length:=(FL.1 hH).1
 have hrep:=hp.rep i (some g) _ hH
 have hg:fp i g:=(hrep.1 g).2 rfl
 have ⟨hg1,hg2,hg3⟩:=hp.own i g hg
 have hnew:=setRow_heap w g cur cs ty (0,0) hc
 have hold:∀ b,b≠g→(w.setRow g cs).heap[b]?=w.heap[b]?:=fun b hb=>setRow_other w g b cs hb
 have hsz:(w.setRow g cs).heap.size=w.heap.size:=by simp [World.setRow]
 have he:k9 St w (w.setRow g cs):=⟨fun b cu ct cz hb hcu=>(hold b (fun e=>hg2 (e ▸ hb))).trans hcu,fun b cu t z hb=>by
  by_cases e:b=g
  ·subst e
   rw [hc] at hb
   cases hb
   exact ⟨cs,(0,0),hnew,hs⟩
  exact ⟨cu,z,(hold b e).trans hb,rfl⟩⟩
 refine ⟨h.df.keep (fun _ h=>h) (fun b hb=>hold b (fun e=>hg2 (e ▸ hb))),h.sz,fun d=>ai.evo he (fun _ x=>x) _ _ (h.env d),⟨h.un.os,h.un.tape,h.un.output,by rw [hsz];exact h.un.size,fun k hk hF=>?_,fun b cu t z hb=>?_⟩,h.s1,h.s2,fun b hb=>by rw [hsz];exact h.s3 b hb,?_,?_,h.sg⟩
 ·refine (hold k (fun e=>?_)).trans (h.un.block k hk hF)
  subst e
  rcases hg3 with h1|h1
  omega
  exact hF h1
 ·have ⟨cur',z',h1,h2⟩:=h.un.sh b cu t z hb
  have ⟨cur2,z2,h3,h4⟩:=he.sh b cur' t z' h1
  exact ⟨cur2,z2,h3,h4.trans h2⟩
 ·refine ⟨fp,fun j q r hj=>?_,hp.dis,fun j b hb=>by rw [hsz];exact hp.own j b hb,fun j hj=>hp.out j (by simpa using hj)⟩
  by_cases e:j=i
  ·subst e
   simp [hlt] at hj
   obtain ⟨rfl,rfl⟩:=hj
   exact ⟨hrep.1,cs,ty,hnew,hn,fun m hm=>ai.evo he (fun _ x=>x) _ _ (hf m hm)⟩
  ·rw [FU (Ne.symm e)] at hj
   exact av.rep_evo he (fun _ x=>x) (fun b hF=>hold b (fun e2=>e (hp.dis j i b hF (e2 ▸ hg)))) (hp.rep j q r hj)
 exact cd.keep h.sn (fun q hq=>hold q (fun e=>hg2 (e ▸ h.sg.1 q hq))) (fun q hq=>hold _ (fun e=>hg2 (e ▸ h.sg.2 q hq)))
theorem ab.move {St:Nat→Prop} {a:Act} {w:World} {env:List (Nat×CV)} {b0:Nat→CV} {H:List (Option Nat×av)} {x:Option Nat×av} (h:ab G St ⟨env,b0,H++[x]⟩ a w) {i:Nat} (hi:i<H.length):ab G St ⟨env,b0,H.set i x⟩ a w:=by
 refine ⟨h.df,h.sz,h.env,h.un,h.s1,h.s2,h.s3,?_,h.sn,h.sg⟩
 have ⟨fp,hp⟩:=h.hp
 refine ⟨fun j b=>j<H.length∧if j=i then fp H.length b else fp j b,fun j q r' hj=>?_,fun j l b h1 h2=>?_,fun j b h1=>?_,fun j hj b h1=>?_⟩
 ·have hj1:j<H.length:=by
   have:=(FL.1 hj).1
   simpa using this
  by_cases e:j=i
  ·subst e
   simp [hi] at hj
   have e2:(fun b=>j<H.length∧if j=j then fp H.length b else fp j b)=fp H.length:=funext fun b=>by simp [hi]
   show r'.rep G.al St w (fun b=>j<H.length∧if j=j then fp H.length b else fp j b) q
   rw [e2]
   exact hp.rep H.length q r' (by simp [hj])
  ·rw [FU (Ne.symm e)] at hj
   have e3:(fun b=>j<H.length∧if j=i then fp H.length b else fp j b)=fp j:=funext fun b=>by simp [e,hj1]
   show r'.rep G.al St w (fun b=>j<H.length∧if j=i then fp H.length b else fp j b) q
   rw [e3]
   exact hp.rep j q r' (by rw [FR hj1];exact hj)
 ·have ⟨a1,a2⟩:=h1
  have ⟨b1,b2⟩:=h2
  by_cases e1:j=i<;>by_cases e2:l=i
  omega
  ·simp only [e1,e2,if_true,if_false] at a2 b2
   have:=hp.dis _ _ b a2 b2
   omega
  ·simp only [e1,e2,if_true,if_false] at a2 b2
   have:=hp.dis _ _ b a2 b2
   omega
  ·simp only [e1,e2,if_false] at a2 b2
   exact hp.dis j l b a2 b2
 ·by_cases e:j=i
  ·simp only [e,if_true] at h1;exact hp.own _ b h1.2
  ·simp only [e,if_false] at h1;exact hp.own j b h1.2
 ·have:H.length≤j:=by simpa using hj
  omega
def jG (f:Nat→CV) (off:Nat):List CV→Nat→CV
 | []=>f
 | x::r=>jG (fun j=>match Nat.beq j off with|true=>x|false=>f j) (off+1) r
theorem fg:∀ (l:List CV) (f:Nat→CV) (off j:Nat),jG f off l j=if off≤j∧j<off+l.length then fl l (j-off) else f j
 | [],f,off,j=>by rw [jG,FN (by simp)]
 | x::r,f,off,j=>by
  rw [jG,fg r _ (off+1) j]
  by_cases h1:off+1≤j∧j<off+1+r.length
  ·rw [FO h1,FO (by simp;omega)]
   obtain ⟨m,hm⟩:∃ m,j-off=m+1:=⟨j-off-1,by omega⟩
   rw [hm,show j-(off+1)=m by omega,fl]
  ·rw [FN h1]
   rcases ik j off with ⟨hb,he⟩|⟨hb,he⟩
   ·subst he
    simp only [hb]
    rw [FO (by simp),HH,fl]
   ·simp only [hb]
    rw [FN (by simp;omega)]
theorem oB (cur:Array Value) (vs:List Value) (off:Nat) (h:off+vs.length≤cur.size) (j:Nat):((cur.toList.take off++vs++cur.toList.drop (off+vs.length)).toArray).getD j undef=if off≤j∧j<off+vs.length then vs.getD (j-off) undef else cur.getD j undef:=by
 simp only [GI,GZ,FJ]
 have hm:min off cur.size=off:=by omega
 congr 1
 by_cases h1:j<off
 ·rw [jK,FR (by simp;omega),FR (by simp;omega),Hj,FO h1,Hr]
 ·by_cases h2:j<off+vs.length
  ·rw [jP,FR (by simp;omega),FZ (by simp;omega)]
   congr 1
   simp [hm]
  ·have h9:(cur.toList.take off++vs).length=off+vs.length:=by simp [hm]
   rw [jK,FZ O,G9,Hr,h9,show off+vs.length+(j-(off+vs.length))=j by omega]
theorem vl {al:List Addr} {St:Nat→Prop} {w:World} {l:List CV} {cs:Array Value} (h:o9 al St w l cs) (hl:l.all dx=true):∀ v ∈ cs.toList,v.oneCell'=true:=by
 intro v hv
 have ⟨i,hi,e⟩:=Hw.1 hv
 have hi':i<l.length:=by rw [← h.1];simpa using hi
 have h2:=h.2 i hi'
 have hi2:i<cs.size:=by simpa using hi
 have e2:cs.getD i undef=v:=by simp [hi2];simpa using e
 rw [e2] at h2
 refine lV (c:=fl l i) ?_ h2
 rw [bz]
 have:=F5.1 hl (l.getD i .top) (by simp [List.getD,hi'])
 exact this
theorem wB {i off n m:Nat} {g:Option Nat} {f:Nat→CV} {c:CV} {l:List CV} (ho:o.op=.store t x y) (I:s.eval x=.op i g off) (hH:s.H[i]?=some (g,.blk n f)) (hy:s.eval y=c) (hl:bC c=some l) (h5:(P.info? t).map (·.size)=some m) (hm:l.length=m) (hleaf:l.all dx=true) (hn:off+m≤n)
  (F:Nat→CV) (hF:∀ j,j<n→J (jG f off l j) (F j)) (hd:aJ G o=true) (hK:K (s.with o.dst (.c undef) (s.H.set i (g,.blk n F)))):kE P G o s K:=fun St a w hr Q=>by
 have ⟨info,hi,h6⟩:=FM.1 h5
 obtain ⟨b,rfl,e⟩:=c7 hr I
 have hc:=kA (c7 hr hy) hl
 have ⟨fp,hp⟩:=hr.hp
 obtain ⟨h00,cur,ty,hh,hle,hcell⟩:=hp.rep i (some b) _ hH
 have hst:=run_storeCells_at P b off ty (a.eval y).cells.toList 0 cur w hh (by simp [hc.1];omega) (vl hc hleaf)
 simp only [GV] at hst
 have hrun:(execOp a.eval o).run P w=.ok .skip (w.setRow b (cur.toList.take off++(a.eval y).cells.toList++cur.toList.drop (off+(a.eval y).cells.toList.length)).toArray):=by
  simp only [execOp,ho,e]
  simp [Instr.storeAt,Instr.sureAddr,storeVar,sizeOf,typeInfo,hi,h6,hc.1,hm]
  rw [show (a.eval y).cells.toList.length=m by simp [hc.1,hm]] at hst
  simp [hst]
 unfold Oper.wp
 rw [hrun]
 have hlen:(a.eval y).cells.toList.length=m:=by simp [hc.1,hm]
 refine ⟨fun q hq=>setRow_other w b q _ (fun e=>(hp.own i b ((h00 b).2 rfl)).2.1 (e ▸ hq)),St,fun _ h=>h,_,hK,?_⟩
 have hw:=hr.write hH hh (cs:=(cur.toList.take off++(a.eval y).cells.toList++cur.toList.drop (off+(a.eval y).cells.toList.length)).toArray) (by simp [hc.1];omega) (n':=n) (f':=F) (by simp [hc.1];omega) (fun j hj=>by
  refine hF j hj _ _ _ _ ?_
  rw [fg,oB cur _ off (by rw [hlen];omega),hlen,hm]
  by_cases h1:off≤j∧j<off+m
  ·rw [FO h1,FO h1]
   have:=hc.2 (j-off) O
   simpa [List.getD] using this
  ·rw [FN h1,FN h1]
   exact hcell j hj)
 have:=hw.put (dst:=o.dst) (v:=.c undef) (x:=undef) (bA hd) rfl
 cases ho:o.dst with
 | none=>rw [ho] at this;exact this
 | some d=>rw [ho] at this;exact this
def tf (P:Program) (al:List Addr) (St:Nat→Prop) (w:World) (xv:Value) (k m:Nat) (f:Nat→CV):Prop :=
 ∃ cs:List Value,cs.length=m * k∧(∀ j,j<m * k→ai al St w (f j) (cs.getD j undef))∧∀ W,W.heap=w.heap→(Builtin.lenOf xv).run P W=.ok m W∧(Builtin.firstCells k m xv).run P W=.ok cs.toArray W
def mz (P:Program) (G:Gh) (s:AS) (y:Operand) (k m:Nat) (f:Nat→CV):Prop:=∀ St a w,ab G St s a w→tf P G.al St w (a.eval y) k m f
theorem uU {w W:World} (h:W.heap=w.heap) (p:Addr):W.cell? p=w.cell? p:=by simp [World.cell?,h]
theorem fh {al:List Addr} {St:Nat→Prop} {w:World} {k m cap:Nat} {f:Nat→CV} {b q:Nat} {g:Nat→Value} (h:∀ j,j<m * k→w.cell? ⟨b,q+j,none⟩=some (g j)∧ai al St w (f j) (g j)):tf P al St w (.slice (some ⟨b,q,none⟩) m cap) k m f:=by
 refine ⟨(List.range (m * k)).map g,by simp,fun j hj=>by simp [List.getD,hj];exact (h j hj).2,fun W hW=>⟨rfl,?_⟩⟩
 have:=run_loadCells (P:=P) (w:=W) ⟨b,q,none⟩ (m * k) g (fun j hj=>by rw [cm,uU hW];exact (h j hj).1)
 simpa [Builtin.firstCells] using this
theorem i0 {al:List Addr} {St:Nat→Prop} {w:World} {k cap:Nat} {f:Nat→CV}:tf P al St w (.slice none 0 cap) k 0 f :=
 ⟨[],by simp,fun j hj=>by simp at hj,fun W _=>⟨rfl,by simp [Builtin.firstCells]⟩⟩
theorem eT {k m:Nat} {f:Nat→Nat→CV} (hy:s.eval y=.rs k m f):mz P G s y k m fun j=>f (j / k) (j % k):=fun St a w h=>by
 have ⟨ao,cap,e,h1,h2,h3,h4⟩:=c7 h hy
 rw [e]
 cases ao with
 | none =>
  have:=h3 rfl
  have hm:m=0:=by omega
  subst hm
  exact i0
 | some ad =>
  by_cases h0:m * k=0
  ·refine ⟨[],by simp [h0],fun j hj=>by omega,fun W _=>⟨rfl,?_⟩⟩
   have:=run_loadCells (P:=P) (w:=W) ad 0 (fun _=>undef) (fun j hj=>by omega)
   simp [Builtin.firstCells,h0] at this ⊢
   exact this
  ·have hk:0<k:=Nat.pos_of_ne_zero fun e=>h0 (by rw [e,Nat.mul_zero])
   have hm:0<m:=Nat.pos_of_ne_zero fun e=>h0 (by rw [e,GO])
   have ⟨b,q,sp⟩:=ad
   obtain ⟨h5,h6,h7⟩:=h4 _ rfl hm
   simp only at h5
   subst h5
   obtain ⟨g,hg⟩:=jw (n:=m * k) (p:=fun j v=>w.cell? ⟨b,q+j,none⟩=some v∧ai G.al St w (f (j / k) (j % k)) v) (fun j hj=>by
    obtain ⟨v,hv,hr⟩:=h7 (j / k) (j % k) (Hy (by rw [Hn];exact hj)) (Gu _ hk)
    refine ⟨v,?_,hr⟩
    have h9:=Nat.div_add_mod j k
    rw [Hn] at h9
    have e2:q+j=q+(j / k * k+j % k):=by omega
    rw [e2]
    exact hv)
   exact fh hg
theorem bp {i off k m N:Nat} {g:Option Nat} {F:Nat→CV} (hy:s.eval y=.os i g off m k) (hH:Holds s i g N F) (hN:off+m * k≤N):mz P G s y k m fun j=>F (off+j):=fun St a w h=>by
 have he:=c7 h hy
 cases g with
 | none =>
  have ⟨h1,h2⟩:=he
  subst h1
  rw [h2]
  exact i0
 | some b =>
  have ⟨cap,e,_⟩:=he
  rw [e]
  have ⟨hg,cur,ty,z,hh,hle,hc⟩:=fw h hH
  refine fh (g:=fun j=>cur.getD (off+j) undef) fun j hj=>⟨?_,hc _ O⟩
  have hlt:off+j<cur.size:=by omega
  rw [cell_of_row w b _ cur ty z hh];simp [hlt]
def bK (P:Program) (u:TypeId):Bool:=match P.underlying u with|some (.int _)=>false|some _=>true|none=>false
theorem fK {e ty:TypeId} {info:TypeInfo} {size n m cap:Nat} {base:Option Addr} {xv:Value} {news:List Value} {w:World} (h1:P.underlying t=some (.slice e)) (hu:bK P u=true) (hi:P.info? e=some info) (hs:info.size=size)
  (hl:(Builtin.lenOf xv).run P w=.ok m w) (hn:(Builtin.firstCells size m xv).run P w=.ok news.toArray w) (hroom:n+m≤cap) {w':World} (hst:∀ ad,base=some ad→(storeCells (ad.add (n * size)) news).run P w=.ok () w') (h0:base=none→w'=w) :
  (Builtin.append_ #[t,u] ty #[.slice base n cap,xv]).run P w=.ok (.slice base (n+m) cap) w':=by
 cases hu':P.underlying u with
 | none=>simp [bK,hu'] at hu
 | some d =>
  cases base with
  | none =>
   rw [h0 rfl]
   cases d<;>first|(simp [bK,hu'] at hu;done)|skip
   all_goals simp only [Builtin.append_,GZ,Gx,GR,underlying,Sem.run_bind,run_program,Result.andThen_ok,h1,hu',Sem.run_pure,sizeOf,typeInfo,hi,hs,GW,if_false,hl,FO hroom,Ic,if_true,hn]
  | some ad =>
   have hst:=hst ad rfl
   cases d<;>first|(simp [bK,hu'] at hu;done)|skip
   all_goals simp only [Builtin.append_,GZ,Gx,GR,underlying,Sem.run_bind,run_program,Result.andThen_ok,h1,hu',Sem.run_pure,sizeOf,typeInfo,hi,hs,GW,if_false,hl,FO hroom,Ic,if_true,hn,hst]
theorem oz {e ty:TypeId} {info:TypeInfo} {z:Value} {size n m cap:Nat} {base:Option Addr} {xv:Value} {olds news:List Value} {w:World} (h1:P.underlying t=some (.slice e)) (hu:bK P u=true) (hi:P.info? e=some info) (hs:info.size=size) (hz:info.zero=some z)
  (hl:∀ W,W.heap=w.heap→(Builtin.lenOf xv).run P W=.ok m W) (ho:∀ W,W.heap=w.heap→(Builtin.firstCells size n (.slice base n cap)).run P W=.ok olds.toArray W) (hn:∀ W,W.heap=w.heap→(Builtin.firstCells size m xv).run P W=.ok news.toArray W) (hroom:cap<n+m)
  (h63:n+m≤9223372036854775807) (h48:(n+m) * info.bytes≤140737488355328) :
  (Builtin.append_ #[t,u] ty #[.slice base n cap,xv]).run P w=.ok (.slice (some ⟨w.heap.size,0,none⟩) (n+m) (grownCap w (n+m) cap e)) (w.drew.alloc (.cells (olds.toArray++news.toArray++Builtin.zeroCells z.cells (grownCap w (n+m) cap e-(n+m))) e)):=by
 have hnot:¬ (n+m≤cap):=by omega
 have hfit:=growslice_fits hroom h48
 have h63':¬ (9223372036854775807<((n:Int)+(m:Int))):=by omega
 have h48':¬ (281474976710656<Builtin.nextslicecap (n+m) cap * info.bytes):=by omega
 have hl0:=hl w rfl
 have ho1:=ho w.drew rfl
 have hn1:=hn w.drew rfl
 cases hu':P.underlying u with
 | none=>simp [bK,hu'] at hu
 | some d =>
  have h64:¬ (((n+m:Nat):Int)>IntKind.i64.max∧(false=true∨info.bytes=0)):=by simp [IntKind.max,IntKind.bits,IntKind.signed];omega
  have h49:¬ (Builtin.nextslicecap (n+m) cap * info.bytes>2 ^ 48):=by omega
  have hch:(choose (.appendCap (n+m) cap e)).run P w=.ok (grownCap w (n+m) cap e) w.drew:=by simp [Question.forced,grownCap]
  cases d<;>first|(simp [bK,hu'] at hu;done)|skip
  all_goals simp only [Builtin.append_,GZ,Gx,GR,underlying,Sem.run_bind,run_program,Result.andThen_ok,h1,hu',Sem.run_pure,sizeOf,typeInfo,hi,hs,GW,if_false,hl0,FN hnot,zeroValue,Ic,if_true,newRow]
  all_goals (try (rw [FN (by simp [IntKind.max,IntKind.bits,IntKind.signed];omega)]))
  all_goals (try simp only [Sem.run_bind,run_program,Result.andThen_ok,Sem.run_pure,hi,hz,FN h49,hch,run_askRoom,ho1,hn1,run_newObj,World.alloc_eq,World.size_drew])
theorem yH (olds news:List Value) (rest:Array Value) (j:Nat) (h:j<olds.length+news.length):(olds.toArray++news.toArray++rest).getD j undef=if j<olds.length then olds.getD j undef else news.getD (j-olds.length) undef:=by
 simp only [GI,FJ]
 rw [Gp (by simp;omega)]
 split
 ·rename_i h1
  rw [Gp (by simpa using h1)]
  simp
 ·rename_i h1
  rw [Hc (by simp;omega)]
  simp
def kC (n:Nat) (f h:Nat→CV) (j:Nat):CV:=if j<n then f j else h (j-n)
theorem bU (w:World) (x:Obj):Below w.heap.size w (w.drew.alloc x):=f2 (eN w) (bk w.drew x)
theorem dT {xs:Array Operand} {ats:Array TypeId} (ho:o.op=.call ⟨.builtin .append,xs,ats⟩) {a:Act} {v:Value} {w w':World} (h:(Builtin.append_ ats o.type (xs.map a.eval)).run P w=.ok v w'):(execOp a.eval o).run P w=.ok (.value v) w':=by
 simp [execOp,ho,resolve,invoke,builtin,h]
theorem nq {e:TypeId} {z:Value} {i n m k N by_:Nat} {g:Option Nat} {f h:Nat→CV} (ho:o.op=.call ⟨.builtin .append,#[x,y],#[t,u]⟩) (I:s.eval x=.os i g 0 n k) (hH:s.H[i]?=some (g,.blk N f)) (hN:n * k≤N)
  (hsrc:mz P G s y k m h) (h1:P.underlying t=some (.slice e)) (hu:bK P u=true) (h5:(P.info? e).map (·.size)=some k) (hz:(P.info? e).map (·.zero)=some (some z)) (hby:(P.info? e).map (·.bytes)=some by_)
  (h63:n+m≤9223372036854775807) (h48:(n+m) * by_≤140737488355328) (hzk:z.cells.size=k)
  (F:Nat→CV) (hF:∀ j,j<(n+m) * k→J (kC (n * k) f h j) (F j)) (hleaf:∀ j,j<m * k→dx (h j)=true) (hd:aJ G o=true)
  (hK:∀ g',K (s.with o.dst (.os i g' 0 (n+m) k) (s.H.set i (g',.blk ((n+m) * k) F)))):kE P G o s K:=fun St a w hr Q=>by
 have ⟨info,hi,hs⟩:=FM.1 h5
 have ⟨info',hi',hz⟩:=FM.1 hz
 obtain rfl:=Ga (hi.symm.trans hi')
 have ⟨info',hi',hby⟩:=FM.1 hby
 obtain rfl:=Ga (hi.symm.trans hi')
 have ⟨news,hnl,hnr,hrun⟩:=hsrc St a w hr
 have he:=c7 hr I
 have hlen:(n+m) * k=n * k+m * k:=G8 ..
 -- the value's parts
 obtain ⟨base,cap,ev,hle,hcap,hbase⟩:∃ base cap,a.eval x=.slice base n cap∧n≤cap∧cap≤9223372036854775807∧((g=none∧base=none∧cap=0∧n=0)∨∃ b,g=some b∧base=some ⟨b,0,none⟩∧∃ cur t z,w.heap[b]?=some (.cells cur t z)∧0+cap * k≤cur.size):=by
  cases g with
  | none=>have ⟨h1,h2⟩:=he;exact ⟨none,0,by rw [h2,h1],by omega,by omega,.inl ⟨rfl,rfl,rfl,h1⟩⟩
  | some b=>have ⟨cap,h1,h2,h3,h4⟩:=he;exact ⟨_,cap,h1,h2,h3,.inr ⟨b,rfl,rfl,h4⟩⟩
 have hargs:(#[x,y]:Array Operand).map a.eval=#[a.eval x,a.eval y]:=by simp
 have put:∀ {w':World} {v:Value} {c:CV} {H:List (Option Nat×av)},ab G St ⟨s.env,s.b,H⟩ a w'→ai G.al St w' c v→ab G St (s.with o.dst c H) (a.put o.dst v) w':=fun {w' v c H} h1 h2=>by
  have:=h1.put (dst:=o.dst) (bA hd) h2
  cases ho:o.dst with
  | none=>rw [ho] at this;exact this
  | some d=>rw [ho] at this;exact this
 by_cases hroom:n+m≤cap
 ·-- in place
  rcases hbase with ⟨hg,hb,hc0,hn0⟩|⟨b,hg,hb,cu,tt,zz,hcu,hfit⟩
  ·subst hg hb
   have hm0:m=0:=by omega
   subst hm0
   have hrun':=fK (t:=t) (u:=u) (ty:=o.type) h1 hu hi hs (hrun w rfl).1 (hrun w rfl).2 hroom (base:=none) (w':=w) (fun _ h=>by simp at h) (fun _=>rfl)
   unfold Oper.wp
   rw [dT ho (by rw [hargs,ev];exact hrun')]
   refine ⟨cE.refl _ _,St,fun _ h=>h,_,hK none,?_⟩
   have hlt:=(FL.1 hH).1
   have hmv:ab G St ⟨s.env,s.b,s.H.set i (none,.blk ((n+0) * k) F)⟩ a w:=by
    refine ⟨hr.df,hr.sz,hr.env,hr.un,hr.s1,hr.s2,hr.s3,?_,hr.sn,hr.sg⟩
    have ⟨fp,hp⟩:=hr.hp
    refine ⟨fp,fun j q r hj=>?_,hp.dis,hp.own,fun j hj=>hp.out j (by simpa using hj)⟩
    by_cases hj2:j=i
    ·subst hj2
     simp [hlt] at hj
     obtain ⟨rfl,rfl⟩:=hj
     exact ⟨by simp [hn0],(hp.rep j none _ hH).2⟩
    ·rw [FU (Ne.symm hj2)] at hj
     exact hp.rep j q r hj
   exact put hmv ⟨by omega,by rw [hn0,hc0]⟩
  ·subst hg hb
   have ⟨fp,hp⟩:=hr.hp
   obtain ⟨hb0,cur,ty,hh,hle2,hcell⟩:=hp.rep i (some b) _ hH
   have hq:=Ga (hcu.symm.trans hh)
   injection hq with e1 e2 e3
   have hfit:0+cap * k≤cur.size:=e1 ▸ hfit
   have hfit2:n * k+news.length≤cur.size:=by
    rw [hnl,← hlen]
    exact Gm (Gr _ hroom) O
   have hone:∀ v ∈ news,v.oneCell'=true:=fun v hv=>by
    have ⟨j,hj,e⟩:=Hw.1 hv
    have h2:=hnr j O
    rw [show news.getD j undef=v by simp [List.getD,hj,e]] at h2
    exact lV (hleaf j O) h2
   have hst:=run_storeCells_at P b (n * k) ty news 0 cur w hh (by simpa using hfit2) hone
   simp only [GV] at hst
   have hrun':=fK (t:=t) (u:=u) (ty:=o.type) h1 hu hi hs (hrun w rfl).1 (hrun w rfl).2 hroom (base:=some ⟨b,0,none⟩) (w':=w.setRow b (cur.toList.take (n * k)++news++cur.toList.drop (n * k+news.length)).toArray) (fun ad h=>by
    have h:=Ga h
    subst h
    rw [cm,Nat.zero_add]
    exact hst) (fun h=>by simp at h)
   unfold Oper.wp
   rw [dT ho (by rw [hargs,ev];exact hrun')]
   refine ⟨fun q hq=>setRow_other w b q _ (fun e=>(hp.own i b ((hb0 b).2 rfl)).2.1 (e ▸ hq)),St,fun _ h=>h,_,hK (some b),?_⟩
   have hw:=hr.write hH hh (cs:=(cur.toList.take (n * k)++news++cur.toList.drop (n * k+news.length)).toArray) (by simp;omega) (n':=(n+m) * k) (f':=F) (by simp;omega) (fun j hj=>by
    refine hF j hj _ _ _ _ ?_
    rw [oB cur news (n * k) hfit2]
    unfold kC
    by_cases h3:j<n * k
    ·rw [FO h3,jK];exact hcell j O
    ·rw [FN h3,jP];exact hnr _ O)
   refine put hw ⟨cap,rfl,hroom,hcap,?_⟩
   exact ⟨_,_,_,setRow_heap w b cur _ _ _ hh,by simp;omega⟩
 ·-- a new row
  have hroom:cap<n+m:=by omega
  obtain ⟨olds,hol,hor,horun⟩:tf P G.al St w (.slice base n cap) k n f:=by
   rcases hbase with ⟨hg,hb,hc0,hn0⟩|⟨b,hg,hb,_⟩
   ·subst hb hn0 hc0;exact i0
   ·subst hg hb
    have ⟨_,cur,tt,zz,hh,hle,hc⟩:=qG hr hH
    refine fh (g:=fun j=>cur.getD j undef) fun j hj=>⟨?_,hc j O⟩
    have hlt:j<cur.size:=by omega
    rw [Nat.zero_add,cell_of_row w b j cur tt zz hh];simp [hlt]
  have hrun':=oz (t:=t) (u:=u) (ty:=o.type) h1 hu hi hs hz (fun W hW=>(hrun W hW).1) (fun W hW=>(horun W hW).2) (fun W hW=>(hrun W hW).2) hroom h63 (by rw [hby];exact h48)
  unfold Oper.wp
  rw [dT ho (by rw [hargs,ev];exact hrun')]
  refine ⟨dK hr (bU w _),St,fun _ h=>h,_,hK (some w.heap.size),?_⟩
  have hgc:n+m≤grownCap w (n+m) cap e∧grownCap w (n+m) cap e≤9223372036854775807:=by
   have hlt:=Gu (w.tape w.drawn (.appendCap (n+m) cap e)) (show 0<2 ^ 63-(n+m) by omega)
   simp only [grownCap,Question.cut]
   omega
  have hcell0:(w.drew.alloc (.cells (olds.toArray++news.toArray++Builtin.zeroCells z.cells (grownCap w (n+m) cap e-(n+m))) e)).heap[w.heap.size]?=some (.cells (olds.toArray++news.toArray++Builtin.zeroCells z.cells (grownCap w (n+m) cap e-(n+m))) e (0,0)):=heap_alloc_new w.drew _
  have hsize:(olds.toArray++news.toArray++Builtin.zeroCells z.cells (grownCap w (n+m) cap e-(n+m))).size=grownCap w (n+m) cap e * k:=by
   simp [Builtin.zeroCells,hol,hnl,hzk]
   rw [← G8,← G8]
   congr 1
   omega
  have hEvo:k9 St w (w.drew.alloc (.cells (olds.toArray++news.toArray++Builtin.zeroCells z.cells (grownCap w (n+m) cap e-(n+m))) e)):=k9.of_below (bU w _) hr.s3
  have hfr:=hr.fresh (bU w _) (FQ _) hcell0 (n:=(n+m) * k) (f:=F) (by rw [hsize];exact Gr _ hgc.1) (fun j hj=>by
   refine hF j hj _ _ _ _ (ai.evo hEvo (fun _ x=>x) _ _ ?_)
   unfold kC
   rw [yH olds news _ j O,hol]
   by_cases h3:j<n * k
   ·rw [FO h3,FO h3];exact hor j h3
   ·rw [FN h3,FN h3];exact hnr (j-n * k) O)
  have hkl:=hfr.move ((FL.1 hH).1)
  refine put hkl ⟨_,rfl,hgc.1,hgc.2,_,_,_,hcell0,?_⟩
  rw [hsize]
  omega
theorem gP {ats:Array TypeId} (ho:o.op=.call ⟨.builtin .len,#[x],ats⟩) {a:Act} {v:Value} {w:World} (h:(Builtin.len_ ats o.type #[a.eval x]).run P w=.ok v w):(execOp a.eval o).run P w=.ok (.value v) w:=by
 simp [execOp,ho,resolve,invoke,builtin,h]
theorem yR {e:TypeId} {m n:Nat} {f:Nat→Nat→CV} (ho:o.op=.call ⟨.builtin .len,#[x],#[t]⟩) (I:s.eval x=.rs m n f) (h1:P.underlying t=some (.slice e)):aN P G o s (.c (.int .i64 (n:Nat))):=fun St a w h=>by
 have ⟨ao,cap,e0,_⟩:=c7 h I
 exact ⟨_,fun W _=>gP ho (v:=.int .i64 (n:Nat)) (by rw [e0];simp [Builtin.len_,underlying,h1,goInt]),rfl⟩
theorem yT {e:TypeId} {i off m n:Nat} {g:Option Nat} (ho:o.op=.call ⟨.builtin .len,#[x],#[t]⟩) (I:s.eval x=.os i g off n m) (h1:P.underlying t=some (.slice e)):aN P G o s (.c (.int .i64 (n:Nat))):=fun St a w h=>by
 obtain ⟨ao,cap,e0⟩:∃ ao cap,a.eval x=.slice ao n cap:=by
  have he:=c7 h I
  cases g with
  | none=>exact ⟨none,0,by rw [he.2,he.1]⟩
  | some b=>have ⟨cap,e0,_⟩:=he;exact ⟨_,cap,e0⟩
 exact ⟨_,fun W _=>gP ho (v:=.int .i64 (n:Nat)) (by rw [e0];simp [Builtin.len_,underlying,h1,goInt]),rfl⟩
theorem yQ {l:ByteArray} (ho:o.op=.call ⟨.builtin .len,#[x],#[t]⟩) (I:s.eval x=.c (.string l)) (h1:P.underlying t=some .string):aN P G o s (.c (.int .i64 (l.size:Nat))):=fun St a w h =>
 ⟨_,fun W _=>gP ho (v:=.int .i64 (l.size:Nat)) (by rw [iR h I];simp [Builtin.len_,underlying,h1,goInt]),rfl⟩
theorem yU {e:TypeId} (ho:o.op=.call ⟨.builtin .len,#[x],#[t]⟩) (I:s.eval x=.c (.slice none 0 0)) (h1:P.underlying t=some (.slice e)):aN P G o s (.c (.int .i64 0)):=fun St a w h =>
 ⟨_,fun W _=>gP ho (v:=.int .i64 0) (by rw [iR h I];simp [Builtin.len_,underlying,h1,goInt]),rfl⟩
def Bd (s:AS) (d:Nat):Option Operand→Nat→Prop
 | none,n=>n=d
 | some x,n=>∃ (k:IntKind) (z:Int),s.eval x=.c (.int k z)∧z=(n:Int)
theorem dm (s:AS) (d:Nat):Bd s d none d:=rfl
theorem bO {d n:Nat} {z:Int} (I:s.eval x=.c (.int k z)) (hz:z=(n:Int)):Bd s d (some x) n:=⟨k,z,I,hz⟩
theorem fJ {St:Nat→Prop} {a:Act} {w:World} (h:ab G St s a w) {lo hi:Option Operand} {l u n cap:Nat} (h1:Bd s 0 lo l) (h2:Bd s n hi u) (hlu:l≤u) (hu:u≤n) (hn:n≤cap) (is:Bool) (W:World) :
  (Instr.sliceBounds is n cap (lo.map a.eval) (hi.map a.eval) none).run P W=.ok (l,u,cap) W:=by
 have hb:∀ (x:Operand) (k:IntKind) (z:Int) (m y:Nat) (code:BoundsCode),s.eval x=.c (.int k z)→z=(m:Int)→m≤y→(Instr.sliceBound (a.eval x) y code).run P W=.ok m W:=fun x k z m y code I hz hm=>by
  rw [iR h I,hz]
  simp [Instr.sliceBound,asIntOf,hm]
 cases lo with
 | none =>
  have h1:l=0:=h1
  subst h1
  cases hi with
  | none=>have h2:u=n:=h2;subst h2;simp [Instr.sliceBounds]
  | some y=>have ⟨k,z,hy,hz⟩:=h2;simp [Instr.sliceBounds,hb y k z u cap _ hy hz O]
 | some x =>
  have ⟨k1,z1,I,hz1⟩:=h1
  cases hi with
  | none=>have h2:u=n:=h2;subst h2;simp [Instr.sliceBounds,hb x k1 z1 l u _ I hz1 hlu]
  | some y=>have ⟨k,z,hy,hz⟩:=h2;simp [Instr.sliceBounds,hb y k z u cap _ hy hz O,hb x k1 z1 l u _ I hz1 hlu]
theorem cl {lo hi:Option Operand} (ho:o.op=.slice t x lo hi none) {a:Act} {v:Value} {w:World} (h:(Instr.sliceAt t (a.eval x) (lo.map a.eval) (hi.map a.eval) none).run P w=.ok v w):(execOp a.eval o).run P w=.ok (.value v) w:=by
 simp only [execOp,ho]
 exact iz h
theorem nh {e:TypeId} {m n l v:Nat} {f:Nat→Nat→CV} {lo hi:Option Operand} (ho:o.op=.slice t x lo hi none) (I:s.eval x=.rs m n f) (h1:P.underlying t=some (.slice e)) (h5:(P.info? e).map (·.size)=some m)
  (hl:Bd s 0 lo l) (hu:Bd s n hi v) (hlv:l≤v) (hvn:v≤n):aN P G o s (.rs m (v-l) fun i j=>f (l+i) j):=fun St a w h=>by
 have ⟨info,hi',hs⟩:=FM.1 h5
 have ⟨ao,cap,e0,h2,h3,h4,h6⟩:=c7 h I
 refine ⟨.slice (if cap=l then ao else ao.map (·.add (l * m))) (v-l) (cap-l),fun W _=>cl ho ?_,_,_,rfl,by omega,by omega,fun hn=>?_,fun ad had hn=>?_⟩
 ·rw [e0]
  simp [Instr.sliceAt,Instr.slice,underlying,h1,fJ h hl hu hlv hvn h2,sizeOf,typeInfo,hi',hs]
 ·split at hn
  ·have:=h4 hn;omega
  ·have:ao=none:=by simpa using hn
   have:=h4 this;omega
 ·have hne:¬ cap=l:=by omega
  rw [FN hne] at had
  obtain ⟨ad0,rfl,rfl⟩:=FM.1 had
  have ⟨h7,h8,h9⟩:=h6 ad0 rfl O
  have ⟨b,q,sp⟩:=ad0
  simp only at h7 h8 h9
  subst h7
  rw [cm]
  refine ⟨rfl,h8,fun i j hi2 hj=>?_⟩
  obtain ⟨vv,hv,hr⟩:=h9 (l+i) j O hj
  refine ⟨vv,?_,hr⟩
  rw [← hv,G8]
  congr 2
  simp only
  omega
theorem tX {e:TypeId} {i off m n l v:Nat} {g:Option Nat} {lo hi:Option Operand} (ho:o.op=.slice t x lo hi none) (I:s.eval x=.os i g off n m) (h1:P.underlying t=some (.slice e)) (h5:(P.info? e).map (·.size)=some m)
  (hl:Bd s 0 lo l) (hu:Bd s n hi v) (hlv:l≤v) (hvn:v≤n) (hln:l=0∨l<n):aN P G o s (.os i g (off+l * m) (v-l) m):=fun St a w h=>by
 have ⟨info,hi',hs⟩:=FM.1 h5
 have he:=c7 h I
 cases g with
 | none =>
  have ⟨h2,h3⟩:=he
  subst h2
  have hl0:l=0:=by omega
  have hv0:v=0:=by omega
  subst hl0 hv0
  refine ⟨.slice none 0 0,fun W _=>cl ho ?_,rfl,rfl⟩
  rw [h3]
  simp [Instr.sliceAt,Instr.slice,underlying,h1,fJ h hl hu hlv hvn (FQ _),sizeOf,typeInfo,hi']
 | some b =>
  have ⟨cap,e0,h2,h3,cur,ty,z,h4,h6⟩:=he
  refine ⟨.slice (some ⟨b,off+l * m,none⟩) (v-l) (cap-l),fun W _=>cl ho ?_,cap-l,rfl,by omega,by omega,cur,ty,z,h4,?_⟩
  ·rw [e0]
   have e1:(if cap=l then some (⟨b,off,none⟩:Addr) else some (Addr.add ⟨b,off,none⟩ (l * m)))=some ⟨b,off+l * m,none⟩:=by
    split
    ·have:l=0:=by omega
     subst this
     simp
    ·rw [cm]
   simp [Instr.sliceAt,Instr.slice,underlying,h1,fJ h hl hu hlv hvn h2,sizeOf,typeInfo,hi',hs]
   exact e1
  ·have:l * m+(cap-l) * m=cap * m:=by rw [← G8];congr 1;omega
   omega
theorem xR (l:V) (p q:Nat) (hpq:p≤q) (hq:q≤l.length):J (.rs 1 (q-p) fun i _=>bX l (p+i)) (dL ((l.take q).drop p)):=by
 refine J.rs (by simp;omega) fun i j hi hj=>J.of_eq ?_
 simp [bX,List.getD,show p+i<q by omega]
theorem D5 (l:V) (q:Nat) (hq:q≤l.length):J (.rs 1 (q-0) fun i _=>bX l (0+i)) (dL (l.take q)):=by
 have:=xR l 0 q O hq
 simpa using this
theorem pE {g:FuncId} {cs:Array Operand} {n:Nat} (ho:o.op=.makeFunc (.func g) #[] cs) (hn:cs.size=n):aN P G o s (.fn g n (fl (cs.toList.map s.eval))):=fun St a w h =>
 ⟨.func (.func g) #[] (cs.map a.eval),fun W _=>by simp only [execOp,ho];exact iz (by simp [Instr.makeFunc]),_,rfl,by simp [hn],fun i hi=>by
  rw [bz]
  simp [List.getD,show i<cs.size by omega]
  exact h.eval _⟩
theorem ab.freshRS {St:Nat→Prop} {a:Act} {w w':World} (h:ab G St s a w) (hb:Below w.heap.size w w') {g:Nat} (hg:w.heap.size≤g) (hlt:g<w'.heap.size):ab G (fun b=>St b∨b=g) s a w':=by
 have h1:=h.ext hb
 have he:k9 St w' w':=⟨fun _ _ _ _ _ h=>h,fun b cur t z h=>⟨cur,z,h,rfl⟩⟩
 have hs:∀ b,St b→St b∨b=g:=fun _ h=>.inl h
 have ⟨fp0,hp0⟩:=h.hp
 refine ⟨h1.df.grow hs,h1.sz,fun d=>ai.evo he hs _ _ (h1.env d),h1.un,fun b hb=>.inl (h1.s1 b hb),fun b hb=>?_,fun b hb=>?_,?_,h1.sn,fun g hg=>.inl (h1.sg.1 g hg),fun x I=>.inl (h1.sg.2 x I)⟩
 ·rcases hb with hb|rfl
  exact h1.s2 b hb
  exact .inr (.inl (Gm h.un.size hg))
 ·rcases hb with hb|rfl
  exact h1.s3 b hb
  exact hlt
 ·have he2:=k9.of_below hb h.s3
  refine ⟨fp0,fun i q r hi=>av.rep_evo he2 hs (fun b hF=>hb.block b (hp0.own i b hF).1) (hp0.rep i q r hi),hp0.dis,fun i b hF=>?_,hp0.out⟩
  have ⟨h2,h3,h4⟩:=hp0.own i b hF
  exact ⟨Ge h2 hb.size,fun h=>h.elim h3 (fun e=>by omega),h4⟩
theorem uI {e:TypeId} {l:ByteArray} (ho:o.op=.convert t u x) (I:s.eval x=.c (.string l)) (h1:P.underlying t=some .string) (h2:P.underlying u=some (.slice e)) (h3:P.underlying e=some (.int .u8)) (hl:l.size≤9223372036854775807) (hd:aJ G o=true)
  (hK:K (s.with o.dst (dL l.data.toList) s.H)):eG P G o s K:=fun St a w hr Q=>by
 have hlen:l.data.size=l.size:=rfl
 let cap:=grownCap w l.size 0 e
 have hgc:l.size≤cap∧cap≤9223372036854775807:=by
  have hlt:=Gu (w.tape w.drawn (.appendCap l.size 0 e)) (show 0<2 ^ 63-l.size by omega)
  simp only [cap,grownCap,Question.cut]
  omega
 let cs:Array Value:=(l.data.map fun b=>.int .u8 (b.toNat:Nat))++Array.replicate (cap-l.size) (.int .u8 0)
 have hcs:cs.size=cap:=by simp [cs,hlen];omega
 let w1:=w.drew.alloc (.cells cs e)
 have hw1:w1.heap[w.heap.size]?=some (.cells cs e (0,0)):=heap_alloc_new w.drew _
 let w2:=w1.freeze { block:=w.heap.size,off:=cs.size } 1
 have hb1:Below w.heap.size w w1:=bU w _
 have hw2:w2.heap[w.heap.size]?=some (.cells cs e (cs.size,cs.size+1)):=by
  simp only [w2,World.freeze]
  rw [FN T]
  simp only [GM,hw1,if_true,GK]
  simp
 have hb2:Below w.heap.size w w2:=by
  refine ⟨?_,?_,?_,?_,fun k hk=>?_⟩
  ·simp only [w2,World.freeze];rw [FN T];exact hb1.os
  ·simp only [w2,World.freeze];rw [FN T];exact hb1.tape
  ·simp only [w2,World.freeze];rw [FN T];exact hb1.output
  ·simp only [w2,World.freeze];rw [FN T];simp;exact hb1.size
  ·simp only [w2,World.freeze]
   rw [FN T]
   simp only [GM]
   rw [jK]
   exact hb1.block k hk
 have hrun:(execOp a.eval o).run P w=.ok (.value (.slice (some ⟨w.heap.size,0,none⟩) l.size cap)) w2:=by
  simp only [execOp,ho,iR hr I]
  refine iz ?_
  have hch:(choose (.appendCap l.size 0 e)).run P w=.ok cap w.drew:=by simp [Question.forced,grownCap,cap]
  have hsh:w1.shape? w.heap.size=some (e,cs.size):=by simp [World.shape?,hw1]
  simp only [convert,underlying,Sem.run_bind,run_program,Result.andThen_ok,h1,h2,h3,Sem.run_pure,Conv.stringToBytes,hch,newRow,run_newObj,World.size_drew,World.alloc_eq]
  simp only [markStringish,Sem.run_bind,run_shape]
  show ((Result.ok (w1.shape? w.heap.size) w1).andThen _).andThen _=_
  rw [hsh]
  rfl
 unfold Oper.wp
 rw [hrun]
 refine ⟨hb2,fun b=>St b∨b=w.heap.size,fun _ h=>.inl h,_,hK,?_⟩
 have h4:=(hr.freshRS hb2 (FQ _) (FY.1 hw2).1).put (dst:=o.dst) (v:=dL l.data.toList) (x:=.slice (some ⟨w.heap.size,0,none⟩) l.size cap) (bA hd) ⟨_,cap,by simp;rfl,by simp [hlen];exact hgc.1,hgc.2,(fun h=>by cases h),fun ad had _=>by
  have:=Ga had
  subst this
  refine ⟨rfl,.inr rfl,fun i j hi hj=>?_⟩
  have hi:i<l.data.size:=by simpa using hi
  refine ⟨.int .u8 (l.data[i].toNat:Nat),?_,?_⟩
  ·show w2.cell? ⟨w.heap.size,0+(i * 1+j),none⟩=_
   rw [cell_of_row w2 w.heap.size _ cs e _ hw2,show 0+(i * 1+j)=i by omega]
   have e9:l.data[i]?=some l.data[i]:=FP hi
   have hi2:i<l.size:=hi
   simp [cs,Array.getElem?_append,hi2]
  ·have e9:l.data[i]?=some l.data[i]:=FP hi
   simp [bX,List.getD,e9]
   rfl⟩
 cases ho:o.dst with
 | none=>rw [ho] at h4;exact h4
 | some d=>rw [ho] at h4;exact h4
end
end Am
end Go.Proofs.YtnijncmifjnifaaGreatDoor
