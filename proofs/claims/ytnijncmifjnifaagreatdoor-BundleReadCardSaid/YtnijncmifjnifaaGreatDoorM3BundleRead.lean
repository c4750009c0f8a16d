/- What the law leans on, part 3: Am8, Am9, Ty, AmA, AmB, AmC, AmK, AmL, AmD, AmE, AmF, AmG, AmH, AmI -/
import Derived.Test.YtnijncmifjnifaaGreatDoorM2BundleRead
import Derived.Laws.StructEq
import Derived.Laws.RangeString
import Derived.Shelf.Abstract

set_option maxRecDepth 100000
namespace Go.Proofs.YtnijncmifjnifaaGreatDoor
set_option linter.unusedVariables false
namespace Am
open Go.RowKit
section
section
variable {P:Program} {G:Gh} {ops:Array Oper} {o:Oper} {s:AS} {r:List Oper} {K:AS→Prop} {R:Exit→AS→Prop} {Y:AS→Prop} {x y:Code}

theorem block_exit {i j:Nat} (he:Nat.beq j i=true) (h:R .normal s):blockR i R (.exit j) s:=by
 show match Nat.beq j i with|true=>R .normal s|false=>R (.exit j) s
 rw [he];exact h
theorem block_exit2 {i j:Nat} (he:Nat.beq j i=false) (h:R (.exit j) s):blockR i R (.exit j) s:=by
 show match Nat.beq j i with|true=>R .normal s|false=>R (.exit j) s
 rw [he];exact h
theorem code_condT {d:Operand} (hl:s.eval d=.c (.bool true)) (ht:ACode P G x s R):ACode P G (.cond d x y) s R:=code_cond hl (fun _=>ht) (fun h=>by cases h)
theorem code_condF {d:Operand} (hl:s.eval d=.c (.bool false)) (hf:ACode P G y s R):ACode P G (.cond d x y) s R:=code_cond hl (fun h=>by cases h) (fun _=>hf)

variable {env:List (Nat×CV)} {b0:Nat→CV} {H:List (Option Nat×Res)}
theorem q_rd {d:Nat} {v:CV} (hw:Wanted G ops o ⟨env,b0,H⟩ true) (hd:o.dst=some d) (hN:Nat.blt d G.N=true) (h:ARd P G o ⟨env,b0,H⟩ v) (hk:ASeq P G ops r ⟨(d,v)::env,b0,H⟩ K):ASeq P G ops (o::r) ⟨env,b0,H⟩ K :=
 seq_rd hw (by grind [dstOk]) h (by simp only [AS.put,hd];exact hk)
theorem q_rdO {d:Nat} {v:CV} (hw:Wanted G ops o ⟨env,b0,H⟩ true) (hd:o.dst=some d) (hN:Nat.blt d G.N=true) (h:ARdO P G o ⟨env,b0,H⟩ v) (hk:ASeq P G ops r ⟨(d,v)::env,b0,H⟩ K):ASeq P G ops (o::r) ⟨env,b0,H⟩ K :=
 seq_rdO hw (by grind [dstOk]) h (by simp only [AS.put,hd];exact hk)
theorem q_skip {d:Nat} (hw:Wanted G ops o ⟨env,b0,H⟩ false) (hd:o.dst=some d) (hN:Nat.blt d G.N=true) (hk:ASeq P G ops r ⟨(d,.c undef)::env,b0,H⟩ K):ASeq P G ops (o::r) ⟨env,b0,H⟩ K :=
 seq_skip hw (by grind [dstOk]) (by simp only [AS.put,hd];exact hk)
theorem y_rd {d:Nat} {v:CV} {tr:OrdO} (hw:Wanted G ops o ⟨env,b0,H⟩ true) (hd:o.dst=some d) (hN:Nat.blt d G.N=true) (h:ARd P G o ⟨env,b0,H⟩ v) (hk:AX P G ops tr ⟨(d,v)::env,b0,H⟩ K):AX P G ops (.rd o tr) ⟨env,b0,H⟩ K :=
 x_rd hw (by grind [dstOk]) h (by simp only [AS.put,hd];exact hk)
theorem y_rdO {d:Nat} {v:CV} {tr:OrdO} (hw:Wanted G ops o ⟨env,b0,H⟩ true) (hd:o.dst=some d) (hN:Nat.blt d G.N=true) (h:ARdO P G o ⟨env,b0,H⟩ v) (hk:AX P G ops tr ⟨(d,v)::env,b0,H⟩ K):AX P G ops (.rd o tr) ⟨env,b0,H⟩ K :=
 x_rdO hw (by grind [dstOk]) h (by simp only [AS.put,hd];exact hk)
theorem zz_rd {d:Nat} {v:CV} {tr:OrdO} (hw:Wanted G ops o ⟨env,b0,H⟩ true) (hd:o.dst=some d) (hN:Nat.blt d G.N=true) (h:ARd P G o ⟨env,b0,H⟩ v) (hk:AZ P G ops tr ⟨(d,v)::env,b0,H⟩ K):AZ P G ops (.rd o tr) ⟨env,b0,H⟩ K :=
 z_rd hw (by grind [dstOk]) h (by simp only [AS.put,hd];exact hk)
theorem zz_one1O {d:Nat} {v:CV} {tr:OrdO} (hw:Wanted G ops o ⟨env,b0,H⟩ true) (hd:o.dst=some d) (hN:Nat.blt d G.N=true) (h:ARdO P G o ⟨env,b0,H⟩ v) (hk:AZ P G ops tr ⟨(d,v)::env,b0,H⟩ K):AZ P G ops (.one o tr) ⟨env,b0,H⟩ K :=
 z_one1O hw (by grind [dstOk]) h (by simp only [AS.put,hd];exact hk)
theorem zz_rdO {d:Nat} {v:CV} {tr:OrdO} (hw:Wanted G ops o ⟨env,b0,H⟩ true) (hd:o.dst=some d) (hN:Nat.blt d G.N=true) (hb:ownB ops o=true) (h:ARdO P G o ⟨env,b0,H⟩ v) (hk:AZ P G ops tr ⟨(d,v)::env,b0,H⟩ K):AZ P G ops (.rd o tr) ⟨env,b0,H⟩ K :=
 z_rdO hw (by grind [dstOk]) hb h (by simp only [AS.put,hd];exact hk)
theorem zz_skip {d:Nat} {tr:OrdO} (hw:Wanted G ops o ⟨env,b0,H⟩ false) (hd:o.dst=some d) (hN:Nat.blt d G.N=true) (hk:AZ P G ops tr ⟨(d,.c undef)::env,b0,H⟩ K):AZ P G ops (.rd o tr) ⟨env,b0,H⟩ K :=
 z_skip hw (by grind [dstOk]) (by simp only [AS.put,hd];exact hk)
theorem y_skip {d:Nat} {tr:OrdO} (hw:Wanted G ops o ⟨env,b0,H⟩ false) (hd:o.dst=some d) (hN:Nat.blt d G.N=true) (hk:AX P G ops tr ⟨(d,.c undef)::env,b0,H⟩ K):AX P G ops (.rd o tr) ⟨env,b0,H⟩ K :=
 x_skip hw (by grind [dstOk]) (by simp only [AS.put,hd];exact hk)
theorem y_noone {d:Nat} {tr:OrdO} (hw:Wanted G ops o ⟨env,b0,H⟩ false) (hd:o.dst=some d) (hN:Nat.blt d G.N=true) (hk:AX P G ops tr ⟨(d,.c undef)::env,b0,H⟩ K):AX P G ops (.one o tr) ⟨env,b0,H⟩ K :=
 x_noone hw (by grind [dstOk]) (by simp only [AS.put,hd];exact hk)

theorem wanted_undef {j d:Nat} {b:Bool} (h:o.guard=some (j,b)) (hd:(ops[j]?).bind (·.dst)=some d) (hN:Nat.blt d G.N=true) (hl:look s.env s.b d=.c undef):Wanted G ops o s false:=fun St a w hr=>by
 have hlt:d<a.tmps.size:=by rw [hr.sz];exact Nat.le_of_ble_eq_true hN
 have he:=hr.env d
 rw [hl] at he
 have he:a.tmps.getD d undef=undef:=he
 simp_all [undef,Region.wanted,yielded]
theorem put_lit {d:Nat} {t:Bool} (hN:Nat.blt d G.N=true) (hl:look s.env s.b d=.c (.bool t)) {b:Bool} (e:t=b):EntS G s ⟨(d,.c (.bool b))::s.env,s.b,s.H⟩ :=
 EntS.put hN fun St a w hr=>by
  have:=hr.env d
  simp_all
theorem code_condS {d:Nat} {t:Bool} (hN:Nat.blt d G.N=true) (hl:look s.env s.b d=.c (.bool t)) (ht:t=true→ACode P G x ⟨(d,.c (.bool true))::s.env,s.b,s.H⟩ R) (hf:t=false→ACode P G y ⟨(d,.c (.bool false))::s.env,s.b,s.H⟩ R):ACode P G (.cond (.tmp d) x y) s R :=
 code_cond (t:=t) hl (fun e=>jE (put_lit hN hl e) (ht e)) (fun e=>jE (put_lit hN hl e) (hf e))
theorem seq_split {d:Nat} {t:Bool} (hN:Nat.blt d G.N=true) (hl:look s.env s.b d=.c (.bool t)) (ht:t=true→ASeq P G ops r ⟨(d,.c (.bool true))::s.env,s.b,s.H⟩ K) (hf:t=false→ASeq P G ops r ⟨(d,.c (.bool false))::s.env,s.b,s.H⟩ K):ASeq P G ops r s K:=by
 cases e:t with
 | true=>exact seq_ent (put_lit hN hl e) (ht e)
 | false=>exact seq_ent (put_lit hN hl e) (hf e)
theorem x_split {d:Nat} {t:Bool} {tr:OrdO} (hN:Nat.blt d G.N=true) (hl:look s.env s.b d=.c (.bool t)) (ht:t=true→AX P G ops tr ⟨(d,.c (.bool true))::s.env,s.b,s.H⟩ K) (hf:t=false→AX P G ops tr ⟨(d,.c (.bool false))::s.env,s.b,s.H⟩ K):AX P G ops tr s K:=by
 cases e:t with
 | true=>exact x_ent (put_lit hN hl e) (ht e)
 | false=>exact x_ent (put_lit hN hl e) (hf e)
def InR:IntKind→Int→Prop
 | .i64,z=>-9223372036854775808≤z∧z≤9223372036854775807
 | .u64,z=>0≤z∧z≤18446744073709551615
 | .i32,z=>-2147483648≤z∧z≤2147483647
 | .u32,z=>0≤z∧z≤4294967295
 | .i16,z=>-32768≤z∧z≤32767
 | .u16,z=>0≤z∧z≤65535
 | .i8,z=>-128≤z∧z≤127
 | .u8,z=>0≤z∧z≤255
theorem wrap_id {k:IntKind} {z:Int} (h:InR k z):k.wrap z=z:=by
 cases k <;> simp only [InR] at h <;> simp [IntKind.wrap,IntKind.bits,IntKind.signed] <;> omega
theorem natI {z:Int} (h:0≤z):z=(z.toNat:Int):=by omega

theorem cI {k:IntKind} {a b:Int} (h:a=b):CEnt (.c (.int k a)) (.c (.int k b)):=h ▸ cZ
theorem cB {a b:Bool} (h:a=b):CEnt (.c (.bool a)) (.c (.bool b)):=h ▸ cZ
theorem CEnt.str {a b:ByteArray} (h:a=b):CEnt (.c (.string a)) (.c (.string b)):=h ▸ cZ
theorem CEnt.err {a b:Nat} (h:a=b):CEnt (.err a) (.err b):=h ▸ cZ
theorem CEnt.bs {a b:List UInt8} (h:a=b):CEnt (bsC a) (bsC b):=h ▸ cZ
theorem cN:CEnt (.c (.slice none 0 0)) (bsC []):=CEnt.nilS _ _
theorem cT {a b c d:CV} (h1:CEnt a c) (h2:CEnt b d):CEnt (.tup 2 (fl [a,b])) (.tup 2 (fl [c,d])) :=
 CEnt.tup rfl fun i hi=>match i,hi with|0,_=>h1|1,_=>h2
theorem CEnt.tup3 {a b c d e f:CV} (h1:CEnt a d) (h2:CEnt b e) (h3:CEnt c f):CEnt (.tup 3 (fl [a,b,c])) (.tup 3 (fl [d,e,f])) :=
 CEnt.tup rfl fun i hi=>match i,hi with|0,_=>h1|1,_=>h2|2,_=>h3
theorem CEnt.tup4 {a b c d a' b' c' d':CV} (h1:CEnt a a') (h2:CEnt b b') (h3:CEnt c c') (h4:CEnt d d'):CEnt (.tup 4 (fl [a,b,c,d])) (.tup 4 (fl [a',b',c',d'])) :=
 CEnt.tup rfl fun i hi=>match i,hi with|0,_=>h1|1,_=>h2|2,_=>h3|3,_=>h4
def SE (G:Gh) (s:AS) (x:Operand) (c:CV):Prop:=∀ St a w,RelSt G St s a w→RepC G.al St w c (a.eval x)
theorem se {x:Operand} {c0 c:CV} (hx:s.eval x=c0) (h:CEnt c0 c):SE G s x c:=fun St a w hr=>h _ _ _ _ (evR hr hx)
theorem se_frz {x:Operand} {i off n m N:Nat} {g:Option Nat} {F:Nat→CV} (hx:s.eval x=.os i g off n m) (hH:s.H[i]?=some (g,.frz N F)) (hN:off+n * m≤N) (f:Nat→Nat→CV) (hf:∀ a b,a<n→b<m→CEnt (F (off+(a * m+b))) (f a b)):SE G s x (.rs m n f):=fun St a w hr=>by
 have he:=evR hr hx
 cases g with
 | none =>
  obtain ⟨h1,h2⟩:=he
  subst h1
  exact ⟨none,0,h2,Nat.le_refl _,by decide,fun _=>rfl,fun _ h=>by cases h⟩
 | some g =>
  obtain ⟨cap,h1,h2,h3,_⟩:=he
  obtain ⟨fp,hp⟩:=hr.hp
  obtain ⟨_,hg,cur,t,z,hh,hle,hc⟩:=hp.rep i (some g) _ hH
  refine ⟨_,cap,h1,h2,h3,(fun h=>by cases h),fun ad ha _=>?_⟩
  cases ha
  refine ⟨rfl,hg,fun p q hp' hq=>?_⟩
  have hb:p * m+q<n * m:=by
   have:p * m+m≤n * m:=by rw [← Nat.succ_mul];exact Nat.mul_le_mul_right _ hp'
   omega
  have hlt:off+(p * m+q)<cur.size:=by omega
  refine ⟨cur.getD (off+(p * m+q)) undef,?_,hf p q hp' hq _ _ _ _ (hc _ (by omega))⟩
  show w.cell? ⟨g,off+(p * m+q),none⟩=_
  rw [cell_of_row w g _ cur t z hh];simp [hlt]
theorem se_frzB {x:Operand} {i off n N:Nat} {g:Option Nat} {F:Nat→CV} (l:List UInt8) (hx:s.eval x=.os i g off n 1) (hH:s.H[i]?=some (g,.frz N F)) (hn:n=l.length) (hN:off+n≤N) (hf:∀ a,a<n→CEnt (F (off+a)) (byF l a)):SE G s x (bsC l):=by
 subst hn
 refine se_frz hx hH (by omega) _ fun a b ha hb=>?_
 rw [show off+(a * 1+b)=off+a by omega]
 exact hf a ha
inductive SEL (G:Gh) (s:AS):List Operand→List CV→Prop where
 | nil:SEL G s [] []
 | cons {x:Operand} {c:CV} {l:List Operand} {m:List CV} (h:SE G s x c) (t:SEL G s l m):SEL G s (x::l) (c::m)
theorem sel_len {l:List Operand} {m:List CV} (h:SEL G s l m):l.length=m.length:=by
 induction h with
 | nil=>rfl
 | cons _ _ ih=>simp [ih]
theorem sel_get {l:List Operand} {m:List CV} (h:SEL G s l m) {St:Nat→Prop} {a:Act} {w:World} (hr:RelSt G St s a w):∀ i (hi:i<l.length),RepC G.al St w (fl m i) (a.eval l[i]):=by
 induction h with
 | nil=>intro i hi;simp at hi
 | cons h1 _ ih =>
  intro i hi
  cases i with
  | zero=>exact h1 St a w hr
  | succ i=>exact ih i (by simpa using hi)

def ACp (gs:List Nat) (P:Program) (f:FuncId) (args:List CV) (m:CV):Prop:=AC gs P f [] args fun r H=>r=m∧H=[]

theorem args_se {xs:Array Operand} {args:List CV} (he:SEL G s xs.toList args) {St:Nat→Prop} {a:Act} {w:World} (h:RelSt G St s a w):(xs.map a.eval).size=args.length∧∀ i,RepC G.al St w (fl args i) ((xs.map a.eval).getD i undef):=by
 have hl:=sel_len he
 simp at hl
 refine ⟨by simp [hl],fun i=>?_⟩
 by_cases hi:i<xs.size
 ·have:=sel_get he h i (by simpa using hi)
  simpa [hi] using this
 ·rw [fl_none args i (by omega)]
  trivial
theorem ex_callS {f:FuncId} {xs:Array Operand} {ats:Array TypeId} {args:List CV} {Q:CV→List (Option Nat×Res)→Prop} (ho:o.op=.call ⟨.value (.func f),xs,ats⟩) (hc:calleeB P f=true) (hA:AC G.gs P f [] args Q) (he:SEL G s xs.toList args) (hd:dstOk G o=true)
  (hK:∀ r H',Q r H'→K (s.with o.dst r (s.H++H'))):AEx P G o s K:=fun St a w hr Q'=>by
 unfold Oper.wp
 rw [exec_call ho hc]
 obtain ⟨h1,h2⟩:=args_se he hr
 refine (hA G.al w St _ _ (entry0 hr) h1 h2).mono ?_
 rintro e w' ⟨v,r,H',St',rfl,hq,hv,hu,h3,h4,h5,h6⟩
 refine ⟨hu.below,St',h3,_,hK r H' hq,?_⟩
 have:=(hr.after hu h3 h4 h5 h6).put (dst:=o.dst) (dst_of hd) hv
 cases ho:o.dst with
 | none=>rw [ho] at this;exact this
 | some d=>rw [ho] at this;exact this
theorem ex_callP {f:FuncId} {xs:Array Operand} {ats:Array TypeId} {args:List CV} {m:CV} (ho:o.op=.call ⟨.value (.func f),xs,ats⟩) (hc:calleeB P f=true) (hA:ACp G.gs P f args m) (he:SEL G s xs.toList args) (hd:dstOk G o=true)
  (hK:K (s.with o.dst m (s.H++[]))):AEx P G o s K:=ex_callS ho hc hA he hd (by simp_all)

def ARV (P:Program) (G:Gh) (s:AS) (rv:ResultVar) (c:CV):Prop:=∀ St a w,RelSt G St s a w→∃ v,(match rv with|.tmp t=>pure (a.tmps.getD t undef)|.cell d t=>do loadVar t (← asAddr (a.tmps.getD d undef)):Sem Value).run P w=.ok v w∧RepC G.al St w c v
theorem arv_tmp {t:Nat} {c:CV} (h:look s.env s.b t=c):ARV P G s (.tmp t) c:=fun St a w hr=>⟨_,rfl,h ▸ hr.env t⟩
theorem arv_cell {d:Nat} {t:TypeId} {i off n:Nat} {g:Option Nat} {f:Nat→CV} {c:CV} {ds:TypeDesc} (h:look s.env s.b d=.op i g off) (hH:Holds s i g n f) (h1:P.underlying t=some ds) (ha:aggB P t=false) (hn:off<n) (hc:f off=c):ARV P G s (.cell d t) c:=fun St a w hr=>by
 have he:=hr.env d
 rw [h] at he
 obtain ⟨b,rfl,he⟩:=he
 obtain ⟨hg,cur,ty,z,hh,hle,hcell⟩:=holdCells hr hH
 have hlt:off<cur.size:=by omega
 have hcc:w.cell? ⟨b,off,none⟩=some (cur.getD off undef):=by
  rw [cell_of_row w b off cur ty z hh];simp [hlt]
 grind [asAddr,run_loadVar1]
theorem arv_cellA {d:Nat} {t:TypeId} {i off n m:Nat} {g:Option Nat} {f:Nat→CV} {ds:TypeDesc} (h:look s.env s.b d=.op i g off) (hH:Holds s i g n f) (h1:P.underlying t=some ds) (ha:aggB P t=true) (h5:(P.info? t).map (·.size)=some m) (hn:off+m≤n):ARV P G s (.cell d t) (.agg m fun j=>f (off+j)):=fun St a w hr=>by
 obtain ⟨info,h5i,h6⟩:=Option.map_eq_some_iff.1 h5
 have he:=hr.env d
 rw [h] at he
 obtain ⟨b,rfl,he⟩:=he
 obtain ⟨hg,cur,ty,z,hh,hle,hcell⟩:=holdCells hr hH
 subst h6
 have hrun:=run_loadVarA h1 ha h5i (w:=w) (b:=b) (q:=off) (g:=fun j=>cur.getD (off+j) undef) (fun j hj=>by
  have hlt:off+j<cur.size:=by omega
  rw [cell_of_row w b (off+j) cur ty z hh];simp [hlt])
 refine ⟨.agg ((List.range info.size).map fun j=>cur.getD (off+j) undef).toArray,?_,_,rfl,by simp,fun j hj=>?_⟩
 ·grind [asAddr]
 ·have:=hcell (off+j) (by omega)
  simp_all
theorem run_res {fn:Func} {tmps:Array Value} {vs:Array Value} {w:World} (h:(fn.results.mapM fun|.tmp t=>pure (tmps.getD t undef)|.cell a t=>do loadVar t (← asAddr (tmps.getD a undef)):Sem (Array Value)).run P w=.ok vs w):(results fn tmps).run P w=.ok (if h:vs.size=1 then vs[0] else .tuple vs) w:=by
 unfold results
 rw [Sem.run_bind]
 have h':=h
 refine (congrArg (fun r=>Result.andThen r _) h').trans ?_
 rfl
theorem res_1 {fn:Func} {r1:ResultVar} {v:CV} (h:fn.results=#[r1]) (h1:ARV P G s r1 v):ARes P G fn s v:=fun St a w hr=>by
 obtain ⟨x1,e1,q1⟩:=h1 St a w hr
 simp_all [run_res]
theorem res_2 {fn:Func} {r1 r2:ResultVar} {v1 v2:CV} (h:fn.results=#[r1,r2]) (h1:ARV P G s r1 v1) (h2:ARV P G s r2 v2):ARes P G fn s (.tup 2 (fl [v1,v2])):=fun St a w hr=>by
 obtain ⟨x1,e1,q1⟩:=h1 St a w hr
 obtain ⟨x2,e2,q2⟩:=h2 St a w hr
 exact ⟨.tuple #[x1,x2],run_res (vs:=#[x1,x2]) (by simp_all),_,rfl,rfl,fun i hi=>match i,hi with|0,_=>q1|1,_=>q2⟩
theorem res_3 {fn:Func} {r1 r2 r3:ResultVar} {v1 v2 v3:CV} (h:fn.results=#[r1,r2,r3]) (h1:ARV P G s r1 v1) (h2:ARV P G s r2 v2) (h3:ARV P G s r3 v3):ARes P G fn s (.tup 3 (fl [v1,v2,v3])):=fun St a w hr=>by
 obtain ⟨x1,e1,q1⟩:=h1 St a w hr
 obtain ⟨x2,e2,q2⟩:=h2 St a w hr
 obtain ⟨x3,e3,q3⟩:=h3 St a w hr
 exact ⟨.tuple #[x1,x2,x3],run_res (vs:=#[x1,x2,x3]) (by simp_all),_,rfl,rfl,fun i hi=>match i,hi with|0,_=>q1|1,_=>q2|2,_=>q3⟩
theorem res_4 {fn:Func} {r1 r2 r3 r4:ResultVar} {v1 v2 v3 v4:CV} (h:fn.results=#[r1,r2,r3,r4]) (h1:ARV P G s r1 v1) (h2:ARV P G s r2 v2) (h3:ARV P G s r3 v3) (h4:ARV P G s r4 v4):ARes P G fn s (.tup 4 (fl [v1,v2,v3,v4])):=fun St a w hr=>by
 obtain ⟨x1,e1,q1⟩:=h1 St a w hr
 obtain ⟨x2,e2,q2⟩:=h2 St a w hr
 obtain ⟨x3,e3,q3⟩:=h3 St a w hr
 obtain ⟨x4,e4,q4⟩:=h4 St a w hr
 exact ⟨.tuple #[x1,x2,x3,x4],run_res (vs:=#[x1,x2,x3,x4]) (by simp_all),_,rfl,rfl,fun i hi=>match i,hi with|0,_=>q1|1,_=>q2|2,_=>q3|3,_=>q4⟩
theorem res_0 {fn:Func} (h:fn.results=#[]):ARes P G fn s (.c (.tuple #[])):=fun St a w hr=>⟨.tuple #[],by simp [results,h],rfl⟩

theorem end_val {fn:Func} {e:Exit} {v m:CV} (he:e=.ret∨e=.normal) (hres:ARes P G fn s v) (hv:CEnt v m):bodyR P G fn (fun r H=>r=m∧H=[]) e s:=end_pure he m (hres.ent hv) ⟨rfl,rfl⟩
variable {t u:TypeId} {p q:Operand} {k:IntKind}
theorem rd_convBN {e:TypeId} (ho:o.op=.convert t u p) (hx:s.eval p=.c (.slice none 0 0)) (h1:P.underlying t=some (.slice e)) (h2:P.underlying e=some (.int .u8)) (h3:P.underlying u=some .string):ARd P G o s (.c (.string ⟨#[]⟩)):=fun St a w h=>by
 refine ⟨_,fun W _=>?_,rfl⟩
 grind [execOp,evC,vOk,run_string_bs,Bs.nil]
theorem bs_of_os {St:Nat→Prop} {a:Act} {w:World} (h:RelSt G St s a w) {x:Operand} {i off n N:Nat} {g:Option Nat} {F:Nat→CV} {l:List UInt8} (hx:s.eval x=.os i g off n 1) (hH:Holds s i g N F) (hn:n=l.length) (hN:off+n≤N) (hf:∀ a,a<n→CEnt (F (off+a)) (byF l a)):Bs w (a.eval x) l:=by
 subst hn
 have he:=evR h hx
 cases g with
 | none =>
  obtain ⟨h1,h2⟩:=he
  rw [h2,List.eq_nil_of_length_eq_zero h1]
  exact Bs.nil w
 | some g =>
  obtain ⟨cap,h1,h2,h3,_⟩:=he
  rw [h1]
  obtain ⟨hg,cur,ty,z,hh,hle,hcell⟩:=holdCells h hH
  refine Bs.of_cells h2 h3 fun j hj=>?_
  have hlt:off+j<cur.size:=by omega
  rw [cell_of_row w g _ cur ty z hh]
  have:=hf j hj _ _ _ _ (hcell (off+j) (by omega))
  have e:cur.getD (off+j) undef=.int .u8 ((l.getD j 0).toNat:Nat):=this
  rw [← e]
  simp [hlt]
theorem rd_convBO {e:TypeId} {i off n N:Nat} {g:Option Nat} {F:Nat→CV} (l:List UInt8) (ho:o.op=.convert t u p) (hx:s.eval p=.os i g off n 1) (hH:Holds s i g N F) (hn:n=l.length) (hN:off+n≤N) (hf:∀ a,a<n→CEnt (F (off+a)) (byF l a))
  (h1:P.underlying t=some (.slice e)) (h2:P.underlying e=some (.int .u8)) (h3:P.underlying u=some .string):ARdO P G o s (.c (.string ⟨l.toArray⟩)):=fun St a w h=>by
 refine ⟨_,fun W hW=>?_,rfl⟩
 have hb:=(bs_of_os h hx hH hn hN hf).below hW
 obtain ⟨ao,cap,e0,_⟩:=id hb
 grind [execOp,vOk,run_string_bs]

theorem rd_sliceB {e:TypeId} {a b:Operand} {z1 z2:Int} {k1 k2:IntKind} {l v:Nat} {bl:List UInt8} (ho:o.op=.slice t p (some a) (some b) none) (hx:s.eval p=bsC bl) (h1:P.underlying t=some (.slice e)) (h5:(P.info? e).map (·.size)=some 1)
  (ha:s.eval a=.c (.int k1 z1)) (hz1:z1=(l:Int)) (hb:s.eval b=.c (.int k2 z2)) (hz2:z2=(v:Int)) (hlv:l≤v) (hvn:v≤bl.length):ARd P G o s (bsC ((bl.take v).drop l)) :=
 (rd_sliceR ho hx h1 h5 (bd_some ha hz1) (bd_some hb hz2) hlv hvn).ent (bs_piece bl l v hlv hvn)
theorem rd_sliceB_from {e:TypeId} {a:Operand} {z1:Int} {k1:IntKind} {l:Nat} {bl:List UInt8} (ho:o.op=.slice t p (some a) none none) (hx:s.eval p=bsC bl) (h1:P.underlying t=some (.slice e)) (h5:(P.info? e).map (·.size)=some 1)
  (ha:s.eval a=.c (.int k1 z1)) (hz1:z1=(l:Int)) (hlv:l≤bl.length):ARd P G o s (bsC (bl.drop l)) :=
 (rd_sliceR ho hx h1 h5 (bd_some ha hz1) (bd_none _ _) hlv (Nat.le_refl _)).ent (bs_from bl l hlv)
theorem rd_sliceB_to {e:TypeId} {b:Operand} {z2:Int} {k2:IntKind} {v:Nat} {bl:List UInt8} (ho:o.op=.slice t p none (some b) none) (hx:s.eval p=bsC bl) (h1:P.underlying t=some (.slice e)) (h5:(P.info? e).map (·.size)=some 1)
  (hb:s.eval b=.c (.int k2 z2)) (hz2:z2=(v:Int)) (hvn:v≤bl.length):ARd P G o s (bsC (bl.take v)) :=
 (rd_sliceR ho hx h1 h5 (bd_none _ _) (bd_some hb hz2) (Nat.zero_le _) hvn).ent (bs_to bl v hvn)

theorem rd_eqE0 (ho:o.op=.binOp .eql 37 p (.const .nilIface) u) (hx:s.eval p=.c .nilIface):ARd Tryz.prog G o s (.c (.bool (decide ((0:Nat)=0)))):=fun St a w h=>by
 have hs:a.eval p=ev G.al 0:=(evC h hx).trans (ev_zero _).symm
 refine ⟨.bool (decide ((0:Nat)=0)),fun W _=>?_,rfl⟩
 simp only [execOp,ho,hs]
 refine vOk ?_
 show (do eqGuard .eql _ _ _ (ev G.al 0) .nilIface;binOp .eql _ (ev G.al 0) .nilIface:Sem Value).run _ W=_
 rw [eqGuard_ev_nil]
 exact run_eql_ev_nil G.al 0 W
theorem rd_neE0 (ho:o.op=.binOp .neq 37 p (.const .nilIface) u) (hx:s.eval p=.c .nilIface):ARd Tryz.prog G o s (.c (.bool (decide ((0:Nat)≠0)))):=fun St a w h=>by
 have hs:a.eval p=ev G.al 0:=(evC h hx).trans (ev_zero _).symm
 refine ⟨.bool (decide ((0:Nat)≠0)),fun W _=>?_,rfl⟩
 simp only [execOp,ho,hs]
 refine vOk ?_
 show (do eqGuard .neq _ _ _ (ev G.al 0) .nilIface;binOp .neq _ (ev G.al 0) .nilIface:Sem Value).run _ W=_
 grind [eqGuard_ev_nil,run_neq_ev_nil]
def rowF {α:Type} (k:Nat) (e:α→Nat→CV) (d:α) (l:List α) (j:Nat):CV:=e (l.getD (j / k) d) (j % k)
theorem rowF_at {α:Type} {k:Nat} {e:α→Nat→CV} {d:α} {l:List α} {i j:Nat} (hj:j<k):rowF k e d l (i * k+j)=e (l.getD i d) j:=by
 grind [rowF,Nat.mul_comm,Nat.mul_add_div,Nat.div_eq_of_lt,Nat.mul_add_mod,Nat.mod_eq_of_lt]
theorem byF_append {l l2:List UInt8} {h:Nat→CV} (hh:∀ j,j<l2.length→CEnt (h j) (byF l2 j)):∀ j,j<(l.length+l2.length) * 1→CEnt (appF (l.length * 1) (byF l) h j) (byF (l++l2) j):=fun j hj=>by
 unfold appF
 by_cases h1:j<l.length * 1
 ·rw [if_pos h1]
  refine CEnt.of_eq ?_
  grind [byF]
 ·rw [if_neg h1]
  refine CEnt.trans (hh _ (by omega)) (CEnt.of_eq ?_)
  grind [byF]

theorem md_appendB {e:TypeId} {z:Value} {i N:Nat} {g:Option Nat} {f h:Nat→CV} {l l2:List UInt8} {m:Nat} (ho:o.op=.call ⟨.builtin .append,#[p,q],#[t,u]⟩) (hx:s.eval p=.os i g 0 l.length 1) (hH:s.H[i]?=some (g,.blk N f)) (hN:l.length≤N) (hf:∀ j,j<l.length→CEnt (f j) (byF l j))
  (hsrc:ASrc P G s q 1 m h) (hm:m=l2.length) (hh:∀ j,j<l2.length→CEnt (h j) (byF l2 j)) (h1:P.underlying t=some (.slice e)) (hu:notInt P u=true) (h5:(P.info? e).map (·.size)=some 1) (hz:(P.info? e).map (·.zero)=some (some z)) (hby:(P.info? e).map (·.bytes)=some 1) (hzk:z.cells.size=1)
  (h63:l.length+l2.length≤140737488355328) (hleaf:∀ j,j<m * 1→leafC (h j)=true) (hd:dstOk G o=true)
  (hK:∀ g',K (s.with o.dst (.os i g' 0 (l++l2).length 1) (s.H.set i (g',.blk (l++l2).length (byF (l++l2)))))):AMd P G o s K:=by
 subst hm
 refine md_append ho hx hH (by omega) hsrc h1 hu h5 hz hby (by omega) (by omega) hzk (byF (l++l2)) (fun j hj=>?_) hleaf hd (fun g'=>?_)
 ·refine CEnt.trans ?_ (byF_append hh j hj)
  unfold appF
  split
  ·exact hf j (by omega)
  ·exact cZ
 simp_all

variable {env:List (Nat×CV)} {b0:Nat→CV} {H:List (Option Nat×Res)}
theorem with_some {d:Nat} {v:CV} {H':List (Option Nat×Res)} (hd:o.dst=some d):(⟨env,b0,H⟩:AS).with o.dst v H'=⟨(d,v)::env,b0,H'⟩:=by simp only [AS.with,AS.put,hd]
theorem with_none {v:CV} {H':List (Option Nat×Res)} (hd:o.dst=none):(⟨env,b0,H⟩:AS).with o.dst v H'=⟨env,b0,H'⟩:=by simp only [AS.with,AS.put,hd]
theorem dst_s {d:Nat} (hd:o.dst=some d) (hN:Nat.blt d G.N=true):dstOk G o=true:=by grind [dstOk]
theorem dst_n (hd:o.dst=none):dstOk G o=true:=by simp only [dstOk,hd]

theorem e_alloc {z:Value} {n d:Nat} (ho:o.op=.alloc t) (hz:(P.info? t).map (·.zero)=some (some z)) (hn:z.cells.size=n) (hd:o.dst=some d) (hN:Nat.blt d G.N=true)
  (hK:∀ g,K ⟨(d,.op H.length g 0)::env,b0,H++[(g,.blk n fun j=>.c (z.cells.getD j undef))]⟩):AEx P G o ⟨env,b0,H⟩ K :=
 ex_alloc ho hz hn (dst_s hd hN) fun g=>by rw [with_some hd];exact hK g
theorem e_box {n d:Nat} {c:CV} {l:List CV} (ho:o.op=.box t p) (hx:(⟨env,b0,H⟩:AS).eval p=c) (hl:cellsC c=some l) (hn:l.length=n) (hd:o.dst=some d) (hN:Nat.blt d G.N=true)
  (hK:∀ g,K ⟨(d,.op H.length g 0)::env,b0,H++[(g,.blk n (fl l))]⟩):AEx P G o ⟨env,b0,H⟩ K :=
 ex_box ho hx hl hn (dst_s hd hN) fun g=>by rw [with_some hd];exact hK g
theorem e_buildSlice {e:TypeId} {z:Value} {len m:Nat} {parts:Array (Nat×Operand)} {l:List CV} {n d:Nat} (ho:o.op=.buildSlice t len parts) (h1:P.underlying t=some (.slice e)) (h5:(P.info? e).map (·.size)=some m) (hz:(P.info? e).map (·.zero)=some (some z))
  (hm:Nat.ble (len * m) 16777216=true) (hlen:Nat.ble len 16777216=true) (hf:fillC (fun i=>some (i * m,m)) ((List.range (len * m)).map fun i=>.c (z.cells[i % z.cells.size]!)) (parts.toList.map fun p=>(p.1,(⟨env,b0,H⟩:AS).eval p.2))=some l) (hn:l.length=n) (hle:n=len * m) (hd:o.dst=some d) (hN:Nat.blt d G.N=true)
  (hK:∀ g,K ⟨(d,.os H.length g 0 len m)::env,b0,H++[(g,.blk n (fl l))]⟩):AEx P G o ⟨env,b0,H⟩ K :=
 ex_buildSlice ho h1 h5 hz hm hlen hf hn hle (dst_s hd hN) fun g=>by rw [with_some hd];exact hK g
theorem e_convSB {e:TypeId} {l:ByteArray} {d:Nat} (ho:o.op=.convert t u p) (hx:(⟨env,b0,H⟩:AS).eval p=.c (.string l)) (h1:P.underlying t=some .string) (h2:P.underlying u=some (.slice e)) (h3:P.underlying e=some (.int .u8)) (hl:l.size≤9223372036854775807) (hd:o.dst=some d) (hN:Nat.blt d G.N=true)
  (hK:K ⟨(d,bsC l.data.toList)::env,b0,H⟩):AEx P G o ⟨env,b0,H⟩ K :=
 ex_convSB ho hx h1 h2 h3 hl (dst_s hd hN) (by rw [with_some hd];exact hK)
theorem e_callP {f:FuncId} {xs:Array Operand} {ats:Array TypeId} {args:List CV} {m:CV} {d:Nat} (ho:o.op=.call ⟨.value (.func f),xs,ats⟩) (hc:calleeB P f=true) (hA:ACp G.gs P f args m) (he:SEL G ⟨env,b0,H⟩ xs.toList args) (hd:o.dst=some d) (hN:Nat.blt d G.N=true)
  (hK:K ⟨(d,m)::env,b0,H⟩):AEx P G o ⟨env,b0,H⟩ K:=ex_callP ho hc hA he (dst_s hd hN) (by rw [with_some hd,List.append_nil];exact hK)
theorem e_callS {f:FuncId} {xs:Array Operand} {ats:Array TypeId} {args:List CV} {Q:CV→List (Option Nat×Res)→Prop} {d:Nat} (ho:o.op=.call ⟨.value (.func f),xs,ats⟩) (hc:calleeB P f=true) (hA:AC G.gs P f [] args Q) (he:SEL G ⟨env,b0,H⟩ xs.toList args) (hd:o.dst=some d) (hN:Nat.blt d G.N=true)
  (hK:∀ r H',Q r H'→K ⟨(d,r)::env,b0,H++H'⟩):AEx P G o ⟨env,b0,H⟩ K:=ex_callS ho hc hA he (dst_s hd hN) (fun r H' hq=>by grind [with_some])
theorem e_callV {f:FuncId} {v:Operand} {n d:Nat} {fv:Nat→CV} {xs:Array Operand} {ats:Array TypeId} {args:List CV} {Q:CV→List (Option Nat×Res)→Prop} (ho:o.op=.call ⟨.value v,xs,ats⟩) (hv:(⟨env,b0,H⟩:AS).eval v=.fn f n fv) (hc:calleeB P f=true) (hA:AC G.gs P f [] args Q) (he:EntL (xs.toList.map (⟨env,b0,H⟩:AS).eval++(List.range n).map fv) args) (hd:o.dst=some d) (hN:Nat.blt d G.N=true)
  (hK:∀ r H',Q r H'→K ⟨(d,r)::env,b0,H++H'⟩):AEx P G o ⟨env,b0,H⟩ K:=ex_callv ho hv hc he hA (dst_s hd hN) (fun r H' hq=>by grind [with_some])
theorem m_store {i off n m:Nat} {g:Option Nat} {f:Nat→CV} {c:CV} {l:List CV} (ho:o.op=.store t p q) (hx:(⟨env,b0,H⟩:AS).eval p=.op i g off) (hH:H[i]?=some (g,.blk n f)) (hy:(⟨env,b0,H⟩:AS).eval q=c) (hl:cellsC c=some l) (h5:(P.info? t).map (·.size)=some m) (hm:l.length=m) (hleaf:l.all leafC=true) (hn:off+m≤n)
  (F:Nat→CV) (hF:∀ j,j<n→CEnt (updF f off l j) (F j)) (hd:o.dst=none) (hK:K ⟨env,b0,H.set i (g,.blk n F)⟩):AMd P G o ⟨env,b0,H⟩ K :=
 md_store ho hx hH hy hl h5 hm hleaf hn F hF (dst_n hd) (by rw [with_none hd];exact hK)
theorem m_append {e:TypeId} {z:Value} {i n m k N by_ n' N' d:Nat} {g:Option Nat} {f h:Nat→CV} (ho:o.op=.call ⟨.builtin .append,#[p,q],#[t,u]⟩) (hx:(⟨env,b0,H⟩:AS).eval p=.os i g 0 n k) (hH:H[i]?=some (g,.blk N f)) (hN:n * k≤N)
  (hsrc:ASrc P G ⟨env,b0,H⟩ q k m h) (h1:P.underlying t=some (.slice e)) (hu:notInt P u=true) (h5:(P.info? e).map (·.size)=some k) (hz:(P.info? e).map (·.zero)=some (some z)) (hby:(P.info? e).map (·.bytes)=some by_)
  (h63:n+m≤9223372036854775807) (h48:(n+m) * by_≤140737488355328) (hzk:z.cells.size=k)
  (F:Nat→CV) (hF:∀ j,j<(n+m) * k→CEnt (appF (n * k) f h j) (F j)) (hleaf:∀ j,j<m * k→leafC (h j)=true) (hd:o.dst=some d) (hdN:Nat.blt d G.N=true) (hn':n+m=n') (hN':(n+m) * k=N')
  (hK:∀ g',K ⟨(d,.os i g' 0 n' k)::env,b0,H.set i (g',.blk N' F)⟩):AMd P G o ⟨env,b0,H⟩ K :=
 md_append ho hx hH hN hsrc h1 hu h5 hz hby h63 h48 hzk F hF hleaf (dst_s hd hdN) fun g'=>by grind [with_some]
theorem m_appendB {e:TypeId} {z:Value} {i N d:Nat} {g:Option Nat} {f h:Nat→CV} {l l2:List UInt8} {m:Nat} (ho:o.op=.call ⟨.builtin .append,#[p,q],#[t,u]⟩) (hx:(⟨env,b0,H⟩:AS).eval p=.os i g 0 l.length 1) (hH:H[i]?=some (g,.blk N f)) (hN:l.length≤N) (hf:∀ j,j<l.length→CEnt (f j) (byF l j))
  (hsrc:ASrc P G ⟨env,b0,H⟩ q 1 m h) (hm:m=l2.length) (hh:∀ j,j<l2.length→CEnt (h j) (byF l2 j)) (h1:P.underlying t=some (.slice e)) (hu:notInt P u=true) (h5:(P.info? e).map (·.size)=some 1) (hz:(P.info? e).map (·.zero)=some (some z)) (hby:(P.info? e).map (·.bytes)=some 1) (hzk:z.cells.size=1)
  (h63:l.length+l2.length≤140737488355328) (hleaf:∀ j,j<m * 1→leafC (h j)=true) (hd:o.dst=some d) (hdN:Nat.blt d G.N=true)
  (hK:∀ g',K ⟨(d,.os i g' 0 (l++l2).length 1)::env,b0,H.set i (g',.blk (l++l2).length (byF (l++l2)))⟩):AMd P G o ⟨env,b0,H⟩ K :=
 md_appendB ho hx hH hN hf hsrc hm hh h1 hu h5 hz hby hzk h63 hleaf (dst_s hd hdN) fun g'=>by rw [with_some hd];exact hK g'
theorem l_loop {c:Code} {α:Type} (D:List Nat) (M:α→List (Nat×CV)) (Hp:α→List (Option Nat×Res)) (φ:α→Prop) (μ:α→Nat) (p0:α) (h0:φ p0) (hM:∀ p,kD D (M p)=true) (he:EntE env b0 (M p0)) (hH:HEnt H (Hp p0))
  (hr:∀ p,φ p→ACode P G c ⟨M p,lay D env b0,Hp p⟩ (thenR (fun s'=>LEnd D (lay D env b0) M Hp φ μ (μ p) s') R)):ACode P G (.loop c) ⟨env,b0,H⟩ R :=
 code_loopD (s:=⟨env,b0,H⟩) D M Hp φ μ p0 h0 hM he hH hr
end
end
section
section
variable {P:Program} {G:Gh} {ops:Array Oper} {o:Oper} {s:AS} {K:AS→Prop} {t u:TypeId} {p q:Operand} {k:IntKind}
variable {env:List (Nat×CV)} {b0:Nat→CV} {H:List (Option Nat×Res)}

theorem RelSt.afterH {St St':Nat→Prop} {a:Act} {w w':World} (h:RelSt G St s a w) {fp:Nat→Nat→Prop} (hp:HFoot G.al St w G.w0.heap.size G.F0 s.H fp) {i:Nat} (hi:i<s.H.length) {x:Option Nat×Res} (hu:Under (fp i) w w') (h1:∀ b,St b→St' b) (h2:∀ b,St' b→St b∨w.heap.size≤b∨fp i b) (h3:∀ b,St' b→b<w'.heap.size) (hp':HRel G.al St' w' w.heap.size (fp i) [x]) :
  RelSt G St' ⟨s.env,s.b,s.H.set i x⟩ a w':=by
 have hst:∀ b,St b→w'.heap[b]?=w.heap[b]?:=fun b hb=>hu.block b (h.s3 b hb) fun hf=>(hp.own i b hf).2.1 hb
 have he:Evo St w w':=⟨fun b cur t z hb hc=>(hst b hb).trans hc,hu.sh⟩
 obtain ⟨fp',hp'⟩:=hp'
 refine ⟨h.df.keep h1 hst,h.sz,fun d=>RepC.evo he h1 _ _ (h.env d),⟨hu.os.trans h.un.os,hu.tape.trans h.un.tape,hu.output.trans h.un.output,Nat.le_trans h.un.size hu.size,fun k hk hF=>?_,fun b cur ty z hb=>?_⟩,fun b hs=>h1 b (h.s1 b hs),fun b hs=>?_,h3,?_,?_,fun g hg=>h1 g (h.sg.1 g hg),fun y hy=>h1 _ (h.sg.2 y hy)⟩
 ·refine (hu.block k (Nat.lt_of_lt_of_le hk h.un.size) fun hf=>?_).trans (h.un.block k hk hF)
  rcases (hp.own i k hf).2.2 with h4|h4
  ·omega
  ·exact hF h4
 ·obtain ⟨cur',z',h4,h5⟩:=h.un.sh b cur ty z hb
  obtain ⟨cur2,z2,h6,h7⟩:=hu.sh b cur' ty z' h4
  simp_all
 ·rcases h2 b hs with hs|hs|hs
  ·exact h.s2 b hs
  ·exact .inr (.inl (Nat.le_trans h.un.size hs))
  ·exact .inr (hp.own i b hs).2.2
 ·have old:∀ j b,j≠i→fp j b→w'.heap[b]?=w.heap[b]?:=fun j b hj hb=>hu.block b (hp.own j b hb).1 fun hf=>hj (hp.dis j i b hb hf)
  refine ⟨fun j b=>if j=i then fp' 0 b else fp j b,fun j q r hj=>?_,fun j l b hj hl=>?_,fun j b hj=>?_,fun j hj b hb=>?_⟩
  ·by_cases e:j=i
   ·subst e
    simp [hi] at hj
    have e2:(fun b=>if j=j then fp' 0 b else fp j b)=fp' 0:=funext fun b=>by simp
    show r.rep G.al St' w' (fun b=>if j=j then fp' 0 b else fp j b) q
    rw [e2]
    exact hp'.rep 0 q r (by simp [hj])
   ·rw [List.getElem?_set_ne (Ne.symm e)] at hj
    have e2:(fun b=>if j=i then fp' 0 b else fp j b)=fp j:=funext fun b=>by simp [e]
    show r.rep G.al St' w' (fun b=>if j=i then fp' 0 b else fp j b) q
    rw [e2]
    exact Res.rep_evo he h1 (fun b hF=>old j b e hF) (hp.rep j q r hj)
  ·have apart:∀ l b,l≠i→fp l b→fp' 0 b→False:=fun l b hl h4 h5=>by
    rcases (hp'.own 0 b h5).2.2 with h6|h6
    ·have:=(hp.own l b h4).1;omega
    ·exact hl (hp.dis l i b h4 h6)
   by_cases e1:j=i <;> by_cases e2:l=i
   ·omega
   ·grind
   ·grind
   ·simp only [e1,e2,if_false] at hj hl;exact hp.dis j l b hj hl
  ·by_cases e:j=i
   ·simp only [e,if_true] at hj
    obtain ⟨h4,h5,h6⟩:=hp'.own 0 b hj
    refine ⟨h4,h5,?_⟩
    rcases h6 with h6|h6
    ·exact .inl (Nat.le_trans h.un.size h6)
    ·exact (hp.own i b h6).2.2
   ·simp only [e,if_false] at hj
    obtain ⟨h4,h5,h6⟩:=hp.own j b hj
    refine ⟨Nat.lt_of_lt_of_le h4 hu.size,fun hs=>?_,h6⟩
    rcases h2 b hs with hs|hs|hs
    ·exact h5 hs
    ·omega
    ·exact e (hp.dis j i b hj hs)
  ·have hj':s.H.length≤j:=by simpa using hj
   have e:j≠i:=by omega
   simp only [e,if_false] at hb
   exact hp.out j hj' b hb
 ·exact SentL.keep h.sn (fun q hq=>hst q (h.sg.1 q hq)) (fun y hy=>hst _ (h.sg.2 y hy))

theorem m_callH {f:FuncId} {xs:Array Operand} {ats:Array TypeId} {args:List CV} {Q:CV→List (Option Nat×Res)→Prop} {i d:Nat} {x0:Option Nat×Res} (ho:o.op=.call ⟨.value (.func f),xs,ats⟩) (hc:calleeB P f=true) (hi:H[i]?=some x0) (hA:AC G.gs P f [x0] args Q) (he:SEL G ⟨env,b0,H⟩ xs.toList args) (hd:o.dst=some d) (hN:Nat.blt d G.N=true)
  (hK:∀ r H',Q r H'→∃ x r',H'=[x]∧CEnt r r'∧K ⟨(d,r')::env,b0,H.set i x⟩):AMd P G o ⟨env,b0,H⟩ K:=fun St a w hr Q'=>by
 unfold Oper.wp
 rw [exec_call ho hc]
 obtain ⟨h1,h2⟩:=args_se he hr
 obtain ⟨fp,hp⟩:=hr.hp
 have hlt:i<H.length:=(List.getElem?_eq_some_iff.1 hi).1
 obtain ⟨g0,r0⟩:=x0
 have hent:Entry G.gs G.al St (fp i) [(g0,r0)] w:=by
  refine ⟨hr.s3,hr.sn,hr.sg,⟨fun j b=>j=0∧fp i b,fun j g r hj=>?_,fun j l b hj hl=>by omega,fun j b hj=>⟨(hp.own i b hj.2).1,(hp.own i b hj.2).2.1,.inr hj.2⟩,fun j hj b hb=>by simp at hj;omega⟩,fun b hb=>(hp.own i b hb).2.1⟩
  match j,hj with
  | 0,hj =>
   simp at hj
   obtain ⟨rfl,rfl⟩:=hj
   have e:(fun b=>(0:Nat)=0∧fp i b)=fp i:=funext fun b=>by simp
   show r0.rep G.al St w (fun b=>(0:Nat)=0∧fp i b) g0
   rw [e]
   exact hp.rep i g0 r0 hi
  | j+1,hj=>simp at hj
 refine (hA G.al w St _ _ hent h1 h2).mono ?_
 rintro e w' ⟨v,r,H',St',rfl,hq,hv,hu,h3,h4,h5,h6⟩
 obtain ⟨x,r',rfl,hce,hk⟩:=hK r H' hq
 refine ⟨fun b hb=>hu.block b (hr.s3 b hb) fun hf=>(hp.own i b hf).2.1 hb,St',h3,_,hk,?_⟩
 have h7:=(hr.afterH hp hlt hu h3 h4 h5 h6).put (dst:=o.dst) (v:=r') (x:=v) (by simp_all) (hce _ _ _ _ hv)
 rw [hd] at h7 ⊢
 exact h7
theorem cO {i j:Nat} {g:Option Nat} {off n m k:Nat} (h:n=m):CEnt (.os i g off n k) (.os j g off m k):=by
 subst h
 cases g <;> exact fun _ _ _ _ h=>h
theorem cP {i j off:Nat} {g:Option Nat}:CEnt (.op i g off) (.op j g off):=fun _ _ _ _ h=>h
def OwnQ (n k N:Nat) (F:Nat→CV):CV→List (Option Nat×Res)→Prop:=fun r H'=>∃ g,r=.os 0 g 0 n k∧H'=[(g,.blk N F)]
theorem m_callO {f:FuncId} {xs:Array Operand} {ats:Array TypeId} {args:List CV} {n m N:Nat} {F:Nat→CV} {i d:Nat} {x0:Option Nat×Res} (ho:o.op=.call ⟨.value (.func f),xs,ats⟩) (hc:calleeB P f=true) (hi:H[i]?=some x0) (hA:AC G.gs P f [x0] args (OwnQ n m N F)) (he:SEL G ⟨env,b0,H⟩ xs.toList args) (hd:o.dst=some d) (hN:Nat.blt d G.N=true)
  (hK:∀ g,K ⟨(d,.os i g 0 n m)::env,b0,H.set i (g,.blk N F)⟩):AMd P G o ⟨env,b0,H⟩ K :=
 m_callH ho hc hi hA he hd hN fun r H' ⟨g,h1,h2⟩=>⟨_,_,h2,by rw [h1];exact cO (j:=i) rfl,hK g⟩
theorem ent_head {d:Nat} {v v':CV} (h:CEnt v v'):EntS G ⟨(d,v)::env,b0,H⟩ ⟨(d,v')::env,b0,H⟩:=fun St a w hr=>by
 refine ⟨St,fun _ h=>h,hr.df,hr.sz,fun e=>?_,hr.un,hr.s1,hr.s2,hr.s3,hr.hp,hr.sn,hr.sg⟩
 have:=hr.env e
 by_cases hde:d=e
 ·subst hde
  rw [look_same] at this ⊢
  exact h _ _ _ _ this
 grind [look_other]
theorem AEx.ent {K':AS→Prop} (h:AEx P G o s K') (hK:∀ s',K' s'→∃ s'',EntS G s' s''∧K s''):AEx P G o s K:=fun St a w hr Q=>Oper.wp_mono (fun a' w' ⟨hb,St',hs,s',h1,h2⟩=>by
 obtain ⟨s'',h3,h4⟩:=hK s' h1
 obtain ⟨S2,h5,h6⟩:=h3 St' a' w' h2
 grind) (h St a w hr Q)
theorem e_callO {f:FuncId} {xs:Array Operand} {ats:Array TypeId} {args:List CV} {n m N:Nat} {F:Nat→CV} {d:Nat} (ho:o.op=.call ⟨.value (.func f),xs,ats⟩) (hc:calleeB P f=true) (hA:AC G.gs P f [] args (OwnQ n m N F)) (he:SEL G ⟨env,b0,H⟩ xs.toList args) (hd:o.dst=some d) (hN:Nat.blt d G.N=true)
  (hK:∀ g,K ⟨(d,.os H.length g 0 n m)::env,b0,H++[(g,.blk N F)]⟩):AEx P G o ⟨env,b0,H⟩ K :=
 AEx.ent (K':=fun s'=>∃ g,s'=⟨(d,.os 0 g 0 n m)::env,b0,H++[(g,.blk N F)]⟩) (e_callS ho hc hA he hd hN fun r H' ⟨g,h1,h2⟩=>⟨g,by rw [h1,h2]⟩) fun s' ⟨g,hs⟩=>⟨_,by rw [hs];exact ent_head (cO (j:=H.length) rfl),hK g⟩
theorem end_O {fn:Func} {e:Exit} {n m k N M:Nat} {g:Option Nat} {F F':Nat→CV} (i:Nat) (he:e=.ret∨e=.normal) (hres:ARes P G fn s (.os i g 0 n k)) (hH:s.H[i]?=some (g,.blk N F)) (hn:n=m) (hN:M≤N) (hg:g=none→M=N) (hF:∀ j,j<M→CEnt (F j) (F' j)):bodyR P G fn (OwnQ m k M F') e s:=by
 have h:∃ r H',ARes P G fn s r∧OwnQ m k M F' r H'∧∀ St a w,RelSt G St s a w→HRel G.al St w G.w0.heap.size G.F0 H':=by
  refine ⟨.os 0 g 0 m k,[(g,.blk M F')],hres.ent (cO hn),⟨g,rfl,rfl⟩,fun St a w hr=>?_⟩
  obtain ⟨fp,hp⟩:=hr.hp
  have hr0:=hp.rep i g _ hH
  refine ⟨fun j b=>j=0∧fp i b,fun j q r hj=>?_,fun j l b hj hl=>by omega,fun j b hj=>hp.own i b hj.2,fun j hj b hb=>by simp at hj;omega⟩
  match j,hj with
  | 0,hj =>
   simp at hj
   obtain ⟨rfl,rfl⟩:=hj
   have e:(fun b=>(0:Nat)=0∧fp i b)=fp i:=funext fun b=>by simp
   show Res.rep G.al St w (fun b=>(0:Nat)=0∧fp i b) g (.blk M F')
   rw [e]
   cases g with
   | none=>exact ⟨by rw [hg rfl];exact hr0.1,hr0.2⟩
   | some g =>
    obtain ⟨h1,cur,ty,h2,h3,h4⟩:=hr0
    exact ⟨h1,cur,ty,h2,by omega,fun l hl=>hF l hl _ _ _ _ (h4 l (by omega))⟩
  | j+1,hj=>simp at hj
 rcases he with rfl|rfl <;> exact h

theorem own_nil (d k:Nat) (f:Nat→CV) (hl:look s.env s.b d=.c (.slice none 0 0)):EntS G s ⟨(d,.os s.H.length none 0 0 k)::s.env,s.b,s.H++[(none,.blk 0 f)]⟩:=fun St a w hr=>by
 refine ⟨St,fun _ h=>h,hr.df,hr.sz,fun e=>?_,hr.un,hr.s1,hr.s2,hr.s3,?_,hr.sn,hr.sg⟩
 ·by_cases hde:d=e
  ·subst hde
   rw [look_same]
   have:=hr.env d
   rw [hl] at this
   exact ⟨rfl,this⟩
  ·rw [look_other _ _ _ hde];exact hr.env e
 ·obtain ⟨fp,hp⟩:=hr.hp
  refine ⟨fp,fun j g r hj=>?_,hp.dis,hp.own,fun j hj=>hp.out j (by simp at hj;omega)⟩
  rcases Nat.lt_or_ge j s.H.length with h1|h1
  ·rw [List.getElem?_append_left h1] at hj;exact hp.rep j g r hj
  ·rw [List.getElem?_append_right h1] at hj
   have h2:=(List.getElem?_eq_some_iff.1 hj).1
   simp at h2
   have h3:j=s.H.length:=by omega
   subst h3
   simp at hj
   obtain ⟨rfl,rfl⟩:=hj
   exact ⟨rfl,fun b hb=>hp.out _ (Nat.le_refl _) b hb⟩
theorem se_nilO {x:Operand} {i k off:Nat} (hx:s.eval x=.c (.slice none 0 0)):SE G s x (.os i none off 0 k):=fun St a w hr=>⟨rfl,evC hr hx⟩
theorem ent_none (f:Nat→CV):EntS G s ⟨s.env,s.b,s.H++[(none,.blk 0 f)]⟩:=fun St a w hr=>by
 refine ⟨St,fun _ h=>h,hr.df,hr.sz,hr.env,hr.un,hr.s1,hr.s2,hr.s3,?_,hr.sn,hr.sg⟩
 obtain ⟨fp,hp⟩:=hr.hp
 refine ⟨fp,fun j g r hj=>?_,hp.dis,hp.own,fun j hj=>hp.out j (by simp at hj;omega)⟩
 rcases Nat.lt_or_ge j s.H.length with h1|h1
 ·rw [List.getElem?_append_left h1] at hj;exact hp.rep j g r hj
 ·rw [List.getElem?_append_right h1] at hj
  have h2:=(List.getElem?_eq_some_iff.1 hj).1
  simp at h2
  have h3:j=s.H.length:=by omega
  subst h3
  simp at hj
  obtain ⟨rfl,rfl⟩:=hj
  exact ⟨rfl,fun b hb=>hp.out _ (Nat.le_refl _) b hb⟩
theorem blk_ent (i:Nat) {g:Option Nat} {n m:Nat} {f F:Nat→CV} (hH:s.H[i]?=some (g,.blk n f)) (hn:m≤n) (hg:g=none→m=n) (hF:∀ j,j<m→CEnt (f j) (F j)):EntS G s ⟨s.env,s.b,s.H.set i (g,.blk m F)⟩:=fun St a w hr=>by
 refine ⟨St,fun _ h=>h,hr.df,hr.sz,hr.env,hr.un,hr.s1,hr.s2,hr.s3,?_,hr.sn,hr.sg⟩
 obtain ⟨fp,hp⟩:=hr.hp
 have hlt:i<s.H.length:=(List.getElem?_eq_some_iff.1 hH).1
 refine ⟨fp,fun j q r hj=>?_,hp.dis,hp.own,fun j hj=>hp.out j (by simpa using hj)⟩
 by_cases e:j=i
 ·subst e
  simp [hlt] at hj
  obtain ⟨rfl,rfl⟩:=hj
  have:=hp.rep j g _ hH
  cases g with
  | none=>exact ⟨by rw [hg rfl];exact this.1,this.2⟩
  | some g =>
   obtain ⟨h1,cur,ty,h2,h3,h4⟩:=this
   exact ⟨h1,cur,ty,h2,by omega,fun l hl=>hF l hl _ _ _ _ (h4 l (by omega))⟩
 ·rw [List.getElem?_set_ne (Ne.symm e)] at hj
  exact hp.rep j q r hj

theorem CEnt.agg2 {f g:Nat→CV} (h0:CEnt (f 0) (g 0)) (h1:CEnt (f 1) (g 1)):CEnt (.agg 2 f) (.agg 2 g):=CEnt.agg rfl fun i hi=>match i,hi with|0,_=>h0|1,_=>h1
theorem CEnt.agg6 {f g:Nat→CV} (h0:CEnt (f 0) (g 0)) (h1:CEnt (f 1) (g 1)) (h2:CEnt (f 2) (g 2)) (h3:CEnt (f 3) (g 3)) (h4:CEnt (f 4) (g 4)) (h5:CEnt (f 5) (g 5)):CEnt (.agg 6 f) (.agg 6 g):=CEnt.agg rfl fun i hi=>match i,hi with|0,_=>h0|1,_=>h1|2,_=>h2|3,_=>h3|4,_=>h4|5,_=>h5
def inF (l:List Int) (i:Nat):CV:=.c (.int .i64 (l.getD i 0))
def isC (l:List Int):CV:=.rs 1 l.length fun i _=>inF l i
theorem fl_ints (L:List Int) (j:Nat) (hj:j<L.length):CEnt (fl (L.map fun z=>.c (.int .i64 z)) j) (inF L j):=CEnt.of_eq (by
 rw [fl_get]
 simp [List.getD,hj,inF])
theorem fl_bytes (L:List UInt8) (j:Nat) (hj:j<L.length):CEnt (fl (L.map fun z=>.c (.int .u8 (z.toNat:Nat))) j) (byF L j):=CEnt.of_eq (by
 rw [fl_get]
 simp [List.getD,hj,byF])
theorem se_frzI {x:Operand} {i off n N:Nat} {g:Option Nat} {F:Nat→CV} (l:List Int) (hx:s.eval x=.os i g off n 1) (hH:s.H[i]?=some (g,.frz N F)) (hn:n=l.length) (hN:off+n≤N) (hf:∀ a,a<n→CEnt (F (off+a)) (inF l a)):SE G s x (isC l):=by
 subst hn
 refine se_frz hx hH (by omega) _ fun a b ha hb=>?_
 rw [show off+(a * 1+b)=off+a by omega]
 exact hf a ha

inductive EqF (P:Program) (f g:Nat→CV):List Field→Prop→Prop where
 | nil:EqF P f g [] True
 | int {fd : Field} {fs : List Field} {k k' : IntKind} {a b : Int} {p : Prop} (h : P.underlying fd.type = some (.int k')) (hn : fd.name ≠ "_") (hf : f fd.offset = .c (.int k a)) (hg : g fd.offset = .c (.int k b)) (t : EqF P f g fs p) : EqF P f g (fd :: fs) (a = b ∧ p)
 | bool {fd : Field} {fs : List Field} {a b : Bool} {p : Prop} (h : P.underlying fd.type = some .bool) (hn : fd.name ≠ "_") (hf : f fd.offset = .c (.bool a)) (hg : g fd.offset = .c (.bool b)) (t : EqF P f g fs p) : EqF P f g (fd :: fs) (a = b ∧ p)
 | str {fd : Field} {fs : List Field} {a b : ByteArray} {p : Prop} (h : P.underlying fd.type = some .string) (hn : fd.name ≠ "_") (hf : f fd.offset = .c (.string a)) (hg : g fd.offset = .c (.string b)) (t : EqF P f g fs p) : EqF P f g (fd :: fs) (a = b ∧ p)
theorem run_part {d:TypeDesc} {t:TypeId} (h:P.underlying t=some d) (ha:aggB P t=false) {cs:Array Value} {i:Nat} {v:Value} (hv:cs[i]?=some v) (W:World):(part t cs i).run P W=.ok v W:=by
 simp [part,run_isAgg h,ha,hv]
theorem run_eqFields {f g:Nat→CV} {fs:List Field} {p:Prop} (h:EqF P f g fs p) {al:List Addr} {St:Nat→Prop} {w:World} {xs ys:Array Value} {n:Nat} (hx:xs.size=n) (hy:ys.size=n) (hf:∀ i,i<n→RepC al St w (f i) (xs.getD i undef)) (hg:∀ i,i<n→RepC al St w (g i) (ys.getD i undef))
  (hoff:(fs.all fun fd=>Nat.blt fd.offset n)=true) (d:Nat) (W:World):∃ r:Bool,(Op.eqFields (d+1) xs ys fs).run P W=.ok r W∧(r=true↔p):=by
 have get:∀ (c:Array Value) (q:Nat→CV) (i:Nat) (v:Value),c.size=n→i<n→(∀ i,i<n→RepC al St w (q i) (c.getD i undef))→q i=.c v→c[i]?=some v:=fun c q i v hc hi hq he=>by
  have:=hq i hi
  rw [he] at this
  have:c.getD i undef=v:=this
  simp_all
 induction h with
 | nil=>simp_all [Op.eqFields]
 | @int fd fs k k' a b p h hn h1 h2 _ ih =>
  simp only [List.all_cons,Bool.and_eq_true] at hoff
  obtain ⟨r,hr,hp⟩:=ih hoff.2
  have hlt:fd.offset<n:=Nat.le_of_ble_eq_true hoff.1
  have ha:aggB P fd.type=false:=by unfold aggB;rw [h]
  have e1:=run_part h ha (get xs f _ _ hx hlt hf h1) W
  have e2:=run_part h ha (get ys g _ _ hy hlt hg h2) W
  simp only [Op.eqFields,ne_eq,hn,not_false_eq_true,if_true,Sem.run_bind,e1,e2,Result.andThen_ok,run_equalIn_int W d fd.type k k' a b h,Sem.run_ite]
  by_cases hab:a=b
  ·simp_all
  simp_all
 | @bool fd fs a b p h hn h1 h2 _ ih =>
  simp only [List.all_cons,Bool.and_eq_true] at hoff
  obtain ⟨r,hr,hp⟩:=ih hoff.2
  have hlt:fd.offset<n:=Nat.le_of_ble_eq_true hoff.1
  have ha:aggB P fd.type=false:=by unfold aggB;rw [h]
  have e1:=run_part h ha (get xs f _ _ hx hlt hf h1) W
  have e2:=run_part h ha (get ys g _ _ hy hlt hg h2) W
  simp only [Op.eqFields,ne_eq,hn,not_false_eq_true,if_true,Sem.run_bind,e1,e2,Result.andThen_ok,run_equalIn_bool' W d fd.type a b h,Sem.run_ite]
  by_cases hab:a=b
  ·simp_all
  simp_all
 | @str fd fs a b p h hn h1 h2 _ ih =>
  simp only [List.all_cons,Bool.and_eq_true] at hoff
  obtain ⟨r,hr,hp⟩:=ih hoff.2
  have hlt:fd.offset<n:=Nat.le_of_ble_eq_true hoff.1
  have ha:aggB P fd.type=false:=by unfold aggB;rw [h]
  have e1:=run_part h ha (get xs f _ _ hx hlt hf h1) W
  have e2:=run_part h ha (get ys g _ _ hy hlt hg h2) W
  simp only [Op.eqFields,ne_eq,hn,not_false_eq_true,if_true,Sem.run_bind,e1,e2,Result.andThen_ok,run_equalIn_string W d fd.type a b h,Sem.run_ite]
  by_cases hab:a=b
  ·simp_all
  simp_all [toList_inj]
theorem rd_neAgg {n:Nat} {f g:Nat→CV} {fs:Array Field} {p:Prop} [Decidable p] {t u:TypeId} {x y:Operand} (ho:o.op=.binOp .neq t x y u) (hx:s.eval x=.agg n f) (hy:s.eval y=.agg n g) (hS:P.underlying t=some (.struct fs)) (hp:P.stoodInHeld t=false) (hG:P.eqGuardType P.depth t=false) (hE:EqF P f g fs.toList p) (hoff:(fs.toList.all fun fd=>Nat.blt fd.offset n)=true):ARd P G o s (.c (.bool (decide (¬ p)))):=fun St a w h=>by
 obtain ⟨xs,ex,hx1,hx2⟩:=evR h hx
 obtain ⟨ys,ey,hy1,hy2⟩:=evR h hy
 have hfs:P.fieldsOf t=fs:=by simp [Program.fieldsOf,hS]
 refine ⟨.bool (decide (¬ p)),fun W _=>?_,rfl⟩
 obtain ⟨r,hr,hiff⟩:=run_eqFields hE hx1 hy1 hx2 hy2 hoff 9998 W
 grind [execOp,vOk,Sem.run_bind,run_eqGuard_agg,Result.andThen_ok,run_neq_struct,run_equalIn_agg]

theorem HEnt.frzDead {g:Option Nat} {n:Nat} {f:Nat→CV} {l m:List (Option Nat×Res)} (t:HEnt l m):HEnt ((g,.frz n f)::l) ((g,.dead)::m) :=
 .dead (fun al St w F h=>by
  cases g with
  | none=>exact h.2
  | some g=>exact h.1) t
theorem fl_at {cs:List CV} {j:Nat} (hj:j<cs.length):fl cs j=cs[j]:=by rw [fl_get];simp [List.getD,hj]
theorem entl_at {cs ds:List CV} (h:EntL cs ds):cs.length=ds.length∧∀ j,CEnt (fl cs j) (fl ds j):=by
 induction h with
 | nil=>grind [CEnt.refl]
 | cons h _ ih=>exact ⟨by simp [ih.1],fun j=>match j with|0=>h|j+1=>ih.2 j⟩
theorem hh_bytes {cs:List CV} {l2:List UInt8} (h:EntL cs (l2.map fun c=>.c (.int .u8 (c.toNat:Nat)))):∀ j,j<l2.length→CEnt (fl cs (0+j)) (byF l2 j):=fun j hj=>by
 rw [Nat.zero_add]
 exact ((entl_at h).2 j).trans (fl_bytes l2 j hj)
theorem leaf_fl {cs:List CV} {m:Nat} (h:cs.all leafC=true) (hm:m * 1=cs.length):∀ j,j<m * 1→leafC (fl cs (0+j))=true:=fun j hj=>by
 grind [fl_at]

theorem ac_calls {gs:List Nat} {al:List Addr} {f:FuncId} {args:List CV} {m:CV} {w:World} {vals:Array Value} (hA:ACp gs P f args m) (hS:SentL w gs al) (hs:vals.size=args.length) (hv:∀ i,RepC al (fun b=>b<w.heap.size) w (fl args i) (vals.getD i undef)) :
  Calls P f vals w fun e w'=>∃ v St',e=.returned v∧RepC al St' w' m v∧Below w.heap.size w w':=by
 have hg:∀ g ∈ lst gs,g<w.heap.size:=hS.lt
 have ha:∀ a ∈ al,a.block<w.heap.size:=fun a ha=>by
  obtain ⟨c,t,hc⟩:=hS.row a ha
  grind
 refine (hA al w (fun b=>b<w.heap.size) (fun _=>False) vals ⟨fun _ h=>h,hS,⟨hg,ha⟩,⟨fun _ _=>False,fun i g r hi=>by simp at hi,fun _ _ _ h=>h.elim,fun _ _ h=>h.elim,fun _ _ _ h=>h⟩,fun _ h=>h.elim⟩ hs hv).mono ?_
 rintro e w' ⟨v,r,H',St',he,⟨rfl,rfl⟩,hr,hu,_⟩
 exact ⟨v,St',he,hr,hu.below⟩
theorem law_calls {gs:List Nat} {al:List Addr} {f:FuncId} {args:List CV} {w:World} {vals:Array Value} (hA:ACp gs P f args (.c (.bool true))) (hS:SentL w gs al) (hs:vals.size=args.length) (hv:∀ i,RepC al (fun b=>b<w.heap.size) w (fl args i) (vals.getD i undef)) :
  Calls P f vals w fun e w'=>e=.returned (.bool true)∧Below w.heap.size w w' :=
 (ac_calls hA hS hs hv).mono fun e w' ⟨v,St',he,hr,hb⟩=>⟨by rw [he];exact congrArg _ hr,hb⟩
theorem bs_rep {al:List Addr} {w:World} {v:Value} {l:List UInt8} (h:Bs w v l):RepC al (fun b=>b<w.heap.size) w (bsC l) v:=by
 obtain ⟨ao,cap,h1,h2,h3,h4,h5⟩:=h
 refine ⟨ao,cap,h1,h2,h3,h4,fun a ha hn=>?_⟩
 obtain ⟨h6,h7⟩:=h5 a ha
 refine ⟨h6 hn,World.block_lt_of_cell? w ⟨a.block,a.off+0,none⟩ (h7 0 hn),fun i j hi hj=>⟨_,?_,rfl⟩⟩
 simp_all

theorem ac_old {gs:List Nat} {f:FuncId} {args:List CV} {r:Value} (h:∀ (al:List Addr) (w:World) (St:Nat→Prop) (vals:Array Value),SentL w gs al→vals.size=args.length→(∀ i,RepC al St w (fl args i) (vals.getD i undef))→Calls P f vals w fun e w'=>e=.returned r∧Below w.heap.size w w'):ACp gs P f args (.c r) :=
 fun al w St F0 vals he hs hv=>(h al w St vals he.sn hs hv).mono fun e w' ⟨h1,h2⟩=>by
  refine ⟨r,.c r,[],St,h1,⟨rfl,rfl⟩,rfl,⟨h2.os,h2.tape,h2.output,h2.size,fun k hk _=>h2.block k hk,fun b cur t z hb=>⟨cur,z,(h2.block b (Array.getElem?_eq_some_iff.1 hb).1).trans hb,rfl⟩⟩,fun _ h=>h,fun _ h=>.inl h,fun b hb=>Nat.lt_of_lt_of_le (he.s3 b hb) h2.size,HRel.none _ _ _ _ _⟩
theorem vals1 {vals:Array Value} (h:vals.size=1):vals=#[vals.getD 0 undef]:=by
 apply Array.ext
 ·simp [h]
 simp_all
theorem vals2 {vals:Array Value} (h:vals.size=2):vals=#[vals.getD 0 undef,vals.getD 1 undef]:=by
 apply Array.ext
 ·simp [h]
 ·intro i h1 h2
  have:i=0∨i=1:=by omega
  rcases this with e|e <;> subst e <;> simp [h]
theorem rd_iaddrO1 {e:TypeId} {j n i:Nat} {g:Option Nat} {z:Int} {t:TypeId} {x y:Operand} {k:IntKind} (ho:o.op=.indexAddr t x y) (hx:s.eval x=.os j g 0 n 1) (hy:s.eval y=.c (.int k z)) (h1:P.underlying t=some (.slice e))
  (h5:(P.info? e).map (·.size)=some 1) (hz:z=(i:Int)) (hi:i<n):ARd P G o s (.op j g i):=by
 have:=rd_iaddrO (G:=G) ho hx hy h1 h5 hz hi
 rwa [Nat.zero_add,Nat.mul_one] at this
theorem rd_iaddrA1 {e:TypeId} {j n i:Nat} {g:Option Nat} {z:Int} {t:TypeId} {x y:Operand} {k:IntKind} (ho:o.op=.indexAddr t x y) (hx:s.eval x=.op j g 0) (hy:s.eval y=.c (.int k z)) (h1:P.underlying t=some (.array n e))
  (h5:(P.info? e).map (·.size)=some 1) (hz:z=(i:Int)) (hi:i<n):ARd P G o s (.op j g i):=by
 have:=rd_iaddrA (G:=G) ho hx hy h1 h5 hz hi
 rwa [Nat.zero_add,Nat.mul_one] at this
theorem rep_nil {al:List Addr} {St:Nat→Prop} {w:World}:∀ i,RepC al St w (fl [] i) ((List.toArray ([]:List Value)).getD i undef):=fun _=>trivial
theorem rep_cons {al:List Addr} {St:Nat→Prop} {w:World} {c:CV} {cs:List CV} {v:Value} {vs:List Value} (h:RepC al St w c v) (t:∀ i,RepC al St w (fl cs i) ((List.toArray vs).getD i undef)):∀ i,RepC al St w (fl (c::cs) i) ((List.toArray (v::vs)).getD i undef)
 | 0=>h
 | i+1=>by
  simp_all [fl]
theorem thawB (d:Nat) {i n N:Nat} {g:Option Nat} {F:Nat→CV} (l:List UInt8) (hl:look s.env s.b d=.os i g 0 n 1) (hH:s.H[i]?=some (g,.frz N F)) (hn:n=l.length) (hF:(N,F)=(l.length,byF l)) :
  EntS G s ⟨(d,bsC l)::s.env,s.b,s.H⟩:=by
 cases hF
 subst hn
 exact thaw d (fun a _=>byF l a) hl hH (by omega) (fun a b ha hb=>CEnt.of_eq (by simp_all))
def RowC {α:Type} (k:Nat) (C:List α→Nat→CV):Prop:=∀ l l2 j,j<(l.length+l2.length) * k→(if j<l.length * k then C l j else C l2 (j-l.length * k))=C (l++l2) j
theorem rowC_in:RowC 1 inF:=fun l l2 j hj=>by
 grind [inF]
theorem rowC_row {α:Type} (k:Nat) (e:α→Nat→CV) (d:α):RowC k (rowF k e d):=fun l l2 j hj=>by
 rcases Nat.eq_zero_or_pos k with h0|h0
 ·subst h0;simp at hj
 split
 ·grind [Nat.div_lt_of_lt_mul,rowF]
 ·rename_i h1
  rw [Nat.add_mul] at hj
  obtain ⟨q,rfl⟩:∃ q,j=l.length * k+q:=⟨j-l.length * k,by omega⟩
  grind [rowF,Nat.mul_comm,Nat.mul_add_div,Nat.mul_add_mod,List.getElem?_append_right]
theorem m_appendC {α:Type} {C:List α→Nat→CV} {k:Nat} (hC:RowC k C) {e:TypeId} {z:Value} {i n N N' by_ d:Nat} {t u:TypeId} {p q:Operand} {env:List (Nat×CV)} {b0:Nat→CV} {H:List (Option Nat×Res)} {K:AS→Prop} {g:Option Nat} {f h:Nat→CV} {l l2:List α} {m:Nat} (ho:o.op=.call ⟨.builtin .append,#[p,q],#[t,u]⟩) (hx:(⟨env,b0,H⟩:AS).eval p=.os i g 0 n k) (hn:n=l.length) (hH:H[i]?=some (g,.blk N f)) (hN:l.length * k≤N) (hf:∀ j,j<l.length * k→CEnt (f j) (C l j))
  (hsrc:ASrc P G ⟨env,b0,H⟩ q k m h) (hm:m=l2.length) (hh:∀ j,j<l2.length * k→CEnt (h j) (C l2 j)) (h1:P.underlying t=some (.slice e)) (hu:notInt P u=true) (h5:(P.info? e).map (·.size)=some k) (hz:(P.info? e).map (·.zero)=some (some z)) (hby:(P.info? e).map (·.bytes)=some by_) (hzk:z.cells.size=k)
  (h63:l.length+l2.length≤9223372036854775807) (h48:(l.length+l2.length) * by_≤140737488355328) (hleaf:∀ j,j<m * k→leafC (h j)=true) (hd:o.dst=some d) (hdN:Nat.blt d G.N=true) (hN':(l++l2).length * k=N')
  (hK:∀ g',K ⟨(d,.os i g' 0 (l++l2).length k)::env,b0,H.set i (g',.blk N' (C (l++l2)))⟩):AMd P G o ⟨env,b0,H⟩ K:=by
 subst hm hn
 refine m_append ho hx hH hN hsrc h1 hu h5 hz hby h63 h48 hzk (C (l++l2)) (fun j hj=>?_) hleaf hd hdN List.length_append.symm (by simp_all) hK
 rw [← hC l l2 j hj]
 unfold appF
 split
 ·rename_i h;exact hf j h
 ·rename_i h
  refine hh _ ?_
  grind
theorem hh_ints {cs:List CV} {l2:List Int} (h:EntL cs (l2.map fun c=>.c (.int .i64 c))):∀ j,j<l2.length * 1→CEnt (fl cs (0+j)) (inF l2 j):=fun j hj=>by
 rw [Nat.zero_add]
 exact ((entl_at h).2 j).trans (fl_ints l2 j (by omega))
theorem leaf_flk {cs:List CV} {m k:Nat} (h:cs.all leafC=true) (hm:m * k=cs.length):∀ j,j<m * k→leafC (fl cs (0+j))=true:=fun j hj=>by
 grind [fl_at]
end
theorem jnm {A B:Prop} (b:B) (h:B→A:=by intro b;dsimp only [List.set_cons_zero,List.set_cons_succ,List.cons_append,List.nil_append,List.length_cons,List.length_nil,Nat.zero_add,Nat.reduceAdd];exact b):A:=h b
end
section
theorem sz3:(Tryz.prog.info? 3).map (·.size)=some 1:=by kernel_rfl
theorem by3:(Tryz.prog.info? 3).map (·.bytes)=some 8:=by kernel_rfl
theorem zr3:(Tryz.prog.info? 3).map (·.zero)=some (some (.int .i64 0)):=by kernel_rfl
theorem sz5:(Tryz.prog.info? 5).map (·.size)=some 1:=by kernel_rfl
theorem by5:(Tryz.prog.info? 5).map (·.bytes)=some 1:=by kernel_rfl
theorem zr5:(Tryz.prog.info? 5).map (·.zero)=some (some (.int .u8 0)):=by kernel_rfl
theorem nu22:notInt Tryz.prog 22=true:=by kernel_rfl
theorem zr24:(Tryz.prog.info? 24).map (·.zero)=some (some (.agg #[.int .i64 0,.string ByteArray.empty,.slice none 0 0])):=by kernel_rfl
theorem pl24:plOf Tryz.prog 24=some [(0,1),(1,1),(2,1)]:=by kernel_rfl
theorem nu28:notInt Tryz.prog 28=true:=by kernel_rfl
theorem zr30:(Tryz.prog.info? 30).map (·.zero)=some (some (.agg #[.int .i64 0,.string ByteArray.empty,.slice none 0 0])):=by kernel_rfl
theorem pl30:plOf Tryz.prog 30=some [(0,1),(1,1),(2,1)]:=by kernel_rfl
theorem sz33:(Tryz.prog.info? 33).map (·.size)=some 4:=by kernel_rfl
theorem zr33:(Tryz.prog.info? 33).map (·.zero)=some (some (.agg #[.int .i64 0,.string ByteArray.empty,.int .i64 0,.int .i64 0])):=by kernel_rfl
theorem pl33:plOf Tryz.prog 33=some [(0,1),(1,1),(2,1),(3,1)]:=by kernel_rfl
theorem sz42:(Tryz.prog.info? 42).map (·.size)=some 4:=by kernel_rfl
theorem by42:(Tryz.prog.info? 42).map (·.bytes)=some 40:=by kernel_rfl
theorem zr42:(Tryz.prog.info? 42).map (·.zero)=some (some (.agg #[.int .i64 0,.string ByteArray.empty,.int .i64 0,.int .i64 0])):=by kernel_rfl
theorem pl42:plOf Tryz.prog 42=some [(0,1),(1,1),(2,1),(3,1)]:=by kernel_rfl
theorem nu55:notInt Tryz.prog 55=true:=by kernel_rfl
theorem sz58:(Tryz.prog.info? 58).map (·.size)=some 1:=by kernel_rfl
theorem by58:(Tryz.prog.info? 58).map (·.bytes)=some 24:=by kernel_rfl
theorem nu58:notInt Tryz.prog 58=true:=by kernel_rfl
theorem zr58:(Tryz.prog.info? 58).map (·.zero)=some (some (.slice none 0 0)):=by kernel_rfl
theorem zr92:(Tryz.prog.info? 92).map (·.zero)=some (some (.agg #[.int .i64 0,.int .i64 0,.bool false,.slice none 0 0,.string ByteArray.empty])):=by kernel_rfl
theorem pl92:plOf Tryz.prog 92=some [(0,1),(1,1),(2,1),(3,1),(4,1)]:=by kernel_rfl
theorem zr95:(Tryz.prog.info? 95).map (·.zero)=some (some (.agg #[.int .i64 0,.int .i64 0,.int .i64 0,.int .i64 0])):=by kernel_rfl
theorem pl95:plOf Tryz.prog 95=some [(0,1),(1,1),(2,1),(3,1)]:=by kernel_rfl
theorem sz96:(Tryz.prog.info? 96).map (·.size)=some 1:=by kernel_rfl
theorem by96:(Tryz.prog.info? 96).map (·.bytes)=some 24:=by kernel_rfl
theorem nu96:notInt Tryz.prog 96=true:=by kernel_rfl
theorem zr96:(Tryz.prog.info? 96).map (·.zero)=some (some (.slice none 0 0)):=by kernel_rfl
theorem zr98:(Tryz.prog.info? 98).map (·.zero)=some (some (.agg #[.slice none 0 0,.int .i64 0])):=by kernel_rfl
theorem pl98:plOf Tryz.prog 98=some [(0,1),(1,1)]:=by kernel_rfl
theorem nu102:notInt Tryz.prog 102=true:=by kernel_rfl
theorem zr104:(Tryz.prog.info? 104).map (·.zero)=some (some (.agg #[.slice none 0 0,.slice none 0 0,.nilIface])):=by kernel_rfl
theorem pl104:plOf Tryz.prog 104=some [(0,1),(1,1),(2,1)]:=by kernel_rfl
theorem nu113:notInt Tryz.prog 113=true:=by kernel_rfl
theorem zr115:(Tryz.prog.info? 115).map (·.zero)=some (some (.agg #[.slice none 0 0,.slice none 0 0,.int .i64 0])):=by kernel_rfl
theorem pl115:plOf Tryz.prog 115=some [(0,1),(1,1),(2,1)]:=by kernel_rfl
theorem zr127:(Tryz.prog.info? 127).map (·.zero)=some (some (.agg #[.slice none 0 0,.nilIface])):=by kernel_rfl
theorem pl127:plOf Tryz.prog 127=some [(0,1),(1,1)]:=by kernel_rfl
theorem zr130:(Tryz.prog.info? 130).map (·.zero)=some (some (.agg #[.int .i64 0,.slice none 0 0])):=by kernel_rfl
theorem pl130:plOf Tryz.prog 130=some [(0,1),(1,1)]:=by kernel_rfl
theorem sz150:(Tryz.prog.info? 150).map (·.size)=some 2:=by kernel_rfl
theorem by150:(Tryz.prog.info? 150).map (·.bytes)=some 32:=by kernel_rfl
theorem zr150:(Tryz.prog.info? 150).map (·.zero)=some (some (.agg #[.int .i64 0,.slice none 0 0])):=by kernel_rfl
theorem pl150:plOf Tryz.prog 150=some [(0,1),(1,1)]:=by kernel_rfl
theorem zr180:(Tryz.prog.info? 180).map (·.zero)=some (some (.agg (Array.replicate 32 (.int .u8 0)))):=by kernel_rfl
theorem zr199:(Tryz.prog.info? 199).map (·.zero)=some (some (.agg (Array.replicate 6 (.int .i64 0)))):=by kernel_rfl
theorem pl199:plOf Tryz.prog 199=some [(0,1),(1,1),(2,1),(3,1),(4,1),(5,1)]:=by kernel_rfl
theorem zr205:(Tryz.prog.info? 205).map (·.zero)=some (some (.agg (Array.replicate 7 (.int .i64 0)))):=by kernel_rfl
theorem zr207:(Tryz.prog.info? 207).map (·.zero)=some (some (.agg (Array.replicate 6 (.int .i64 0)))):=by kernel_rfl
theorem pl207:plOf Tryz.prog 207=some [(0,1),(1,1),(2,1),(3,1),(4,1),(5,1)]:=by kernel_rfl
end
section
theorem updF_one (f:Nat→CV) (off:Nat) (x:CV) (j:Nat):updF f off [x] j=if j=off then x else f j:=by
 rw [updF_get]
 by_cases h:j=off
 ·subst h;rw [if_pos (by simp),if_pos rfl,Nat.sub_self];rfl
 grind
section
variable {P:Program} {G:Gh} {ops:Array Oper} {o:Oper} {s:AS} {r:List Oper} {K:AS→Prop} {t u:TypeId} {x y:Operand} {env:List (Nat×CV)} {b0:Nat→CV} {H:List (Option Nat×Res)}

theorem ac_len {gs:List Nat} {P:Program} {f:FuncId} {H:List (Option Nat×Res)} {args:List CV} {Q:CV→List (Option Nat×Res)→Prop} (j:Nat) {k n:Nat} {F:Nat→Nat→CV} (hj:fl args j=.rs k n F) (h:n≤9223372036854775807→AC gs P f H args Q):AC gs P f H args Q:=fun al w St F0 vals he hs hv=>by
 have h1:=hv j
 rw [hj] at h1
 obtain ⟨ao,cap,_,h2,h3,_⟩:=id h1
 exact h (by omega) al w St F0 vals he hs hv
theorem CEnt.nilS' {n k:Nat} {f:Nat→Nat→CV} (h:n=0):CEnt (.c (.slice none 0 0)) (.rs k n f):=by subst h;exact CEnt.nilS k f
theorem fl_by {cs:List CV} {l2:List UInt8} (h:EntL cs (l2.map fun c=>.c (.int .u8 (c.toNat:Nat)))):∀ j,j<l2.length→CEnt (fl cs j) (byF l2 j):=fun j hj=>by
 have:=hh_bytes h j hj
 rwa [Nat.zero_add] at this
theorem eqG_slice (op:BinOp) (t:TypeId) (x y:Operand) (a b:Option Addr) (n c n' c':Nat) (W:World):(eqGuard op t x y (.slice a n c) (.slice b n' c')).run P W=.ok () W:=by
 unfold eqGuard
 split <;> simp
theorem run_slice_nil {e:TypeId} (ht:P.underlying t=some (.slice e)) (a:Option Addr) (n c:Nat) (W:World):(Op.equal t (.slice a n c) (.slice none 0 0)).run P W=.ok a.isNone W:=by
 show (Op.equalIn 10000 t (.slice a n c) (.slice none 0 0)).run P W=_
 rw [show (10000:Nat)=9999+1 from rfl,Op.equalIn]
 cases a <;> simp only [underlying,Sem.run_bind,run_program,Result.andThen_ok,ht,Sem.run_pure] <;> rfl
theorem exec_eqSnil {e:TypeId} (ho:o.op=.binOp .eql t x y u) {a:Act} {ao:Option Addr} {n c:Nat} (hx:a.eval x=.slice ao n c) (hy:a.eval y=.slice none 0 0) (ht:P.underlying t=some (.slice e)) (W:World):(execOp a.eval o).run P W=.ok (.value (.bool ao.isNone)) W:=by
 simp_all [execOp,eqG_slice,binOp,run_slice_nil]
theorem rd_eqSO {e:TypeId} {i off n k:Nat} {g:Option Nat} (ho:o.op=.binOp .eql t x y u) (hx:s.eval x=.os i g off n k) (hy:s.eval y=.c (.slice none 0 0)) (ht:P.underlying t=some (.slice e)):ARd P G o s (.c (.bool g.isNone)):=fun St a w h=>by
 have he:=evR h hx
 cases g with
 | none=>exact ⟨_,fun W _=>exec_eqSnil ho he.2 (evC h hy) ht W,rfl⟩
 | some b=>obtain ⟨cap,e0,_⟩:=he;exact ⟨_,fun W _=>exec_eqSnil ho e0 (evC h hy) ht W,rfl⟩
theorem seq_eqNil {e:TypeId} {k n d:Nat} {f:Nat→Nat→CV} (hw:Wanted G ops o ⟨env,b0,H⟩ true) (ho:o.op=.binOp .eql t x y u) (hx:(⟨env,b0,H⟩:AS).eval x=.rs k n f) (hy:(⟨env,b0,H⟩:AS).eval y=.c (.slice none 0 0)) (ht:P.underlying t=some (.slice e)) (hd:o.dst=some d) (hN:Nat.blt d G.N=true)
  (h1:n=0→ASeq P G ops r ⟨(d,.c (.bool true))::env,b0,H⟩ K) (h2:ASeq P G ops r ⟨(d,.c (.bool false))::env,b0,H⟩ K):ASeq P G ops (o::r) ⟨env,b0,H⟩ K:=fun a w ⟨St,hr⟩ Q hQ=>by
 unfold wpSeq
 rw [if_pos (hw St a w hr)]
 obtain ⟨ao,cap,e0,h3,h4,h5,h6⟩:=evR hr hx
 refine .inl ?_
 unfold Oper.wp
 rw [exec_eqSnil ho e0 (evC hr hy) ht w]
 have put:∀ b:Bool,RelSt G St ⟨(d,.c (.bool b))::env,b0,H⟩ (a.put o.dst (.bool b)) w:=fun b=>by
  have:=hr.put (dst:=o.dst) (v:=.c (.bool b)) (x:=.bool b) (dst_of (dst_s hd hN)) rfl
  rwa [hd] at this ⊢
 cases ao with
 | none=>exact h1 (by have:=h5 rfl;omega) _ _ ⟨St,put true⟩ Q hQ
 | some ad=>exact h2 _ _ ⟨St,put false⟩ Q hQ

theorem thawBL (d:Nat) {i n N:Nat} {g:Option Nat} {cs:List CV} (l:List UInt8) (hl:look s.env s.b d=.os i g 0 n 1) (hH:s.H[i]?=some (g,.frz N (fl cs))) (hn:n=l.length) (hN:Nat.ble n N=true) (he:EntL cs (l.map fun c=>.c (.int .u8 (c.toNat:Nat)))) :
  EntS G s ⟨(d,bsC l)::s.env,s.b,s.H⟩:=by
 subst hn
 have hN:=Nat.le_of_ble_eq_true hN
 exact thaw d (fun a _=>byF l a) hl hH (by omega) (fun a b ha hb=>by
  have:=hh_bytes he a ha
  rwa [show 0+(a * 1+b)=0+a by omega])
theorem thawIL (d:Nat) {i n N:Nat} {g:Option Nat} {F:Nat→CV} (l:List Int) (hl:look s.env s.b d=.os i g 0 n 1) (hH:s.H[i]?=some (g,.frz N F)) (hn:n=l.length) (hN:Nat.ble n N=true) (he:∀ j,j<l.length→CEnt (F j) (inF l j)) :
  EntS G s ⟨(d,isC l)::s.env,s.b,s.H⟩:=by
 subst hn
 have hN:=Nat.le_of_ble_eq_true hN
 exact thaw d (fun a _=>inF l a) hl hH (by omega) (fun a b ha hb=>by
  have:=he a ha
  rwa [show 0+(a * 1+b)=a by omega])
def wide8:IntKind→Bool|.i8=>false|_=>true
theorem wide8_wrap {k:IntKind} (h:wide8 k=true) {z:Int} (h0:0≤z) (h1:z<256):k.wrap z=z:=by
 cases k <;> first|(simp [wide8] at h;done)|(refine wrap_id ?_;show _∧_;omega)
theorem rd_conv8 {c:UInt8} {k':IntKind} {d:TypeDesc} (ho:o.op=.convert t u x) (hx:s.eval x=.c (.int .u8 ((c.toNat:Nat):Int))) (h1:P.underlying t=some d) (h2:P.underlying u=some (.int k')) (hk:wide8 k'=true):ARd P G o s (.c (.int k' ((c.toNat:Nat):Int))) :=
 rd_convI ho hx h1 h2 _ (wide8_wrap hk (by omega) (by have:=c.toNat_lt;omega))
theorem e_make {e:TypeId} {z:Value} {n c k by_ d:Nat} {kn kc:IntKind} {zn zc:Int} {F:Nat→CV} (ho:o.op=.makeSlice t x y) (hx:(⟨env,b0,H⟩:AS).eval x=.c (.int kn zn)) (hy:(⟨env,b0,H⟩:AS).eval y=.c (.int kc zc)) (hn:zn=(n:Int)) (hc:zc=(c:Int)) (hnc:n≤c) (h1:P.underlying t=some (.slice e)) (h5:(P.info? e).map (·.size)=some k) (hz:(P.info? e).map (·.zero)=some (some z)) (hby:(P.info? e).map (·.bytes)=some by_)
  (h48:c * by_≤140737488355328) (h63:c≤9223372036854775807) (hF:∀ j,j<n * k→CEnt (.c (z.cells[j % z.cells.size]!)) (F j)) (hd:o.dst=some d) (hN:Nat.blt d G.N=true)
  (hK:∀ g,K ⟨(d,.os H.length g 0 n k)::env,b0,H++[(g,.blk (n * k) F)]⟩):AEx P G o ⟨env,b0,H⟩ K :=
 AEx.new (dst_s hd hN) (fun g=>.os H.length g 0 n k) (fun St a w hr=>by
  obtain ⟨info,hi,h6⟩:=Option.map_eq_some_iff.1 h5
  obtain ⟨info',hi',hz⟩:=Option.map_eq_some_iff.1 hz
  obtain rfl:=Option.some.inj (hi.symm.trans hi')
  obtain ⟨info',hi',hby⟩:=Option.map_eq_some_iff.1 hby
  obtain rfl:=Option.some.inj (hi.symm.trans hi')
  subst hn hc
  have hb':(info.bytes:Int) * (c:Int)≤281474976710656:=by
   have h:((info.bytes * c:Nat):Int)≤281474976710656:=by rw [Nat.mul_comm,hby];omega
   rwa [Int.natCast_mul] at h
  have hr':=run_make (P:=P) w t e info z h1 hi hz kn kc n c (by omega) (by omega) hb' (by omega)
  simp only [Int.toNat_natCast] at hr'
  have hsz:(madeCells z.cells (c * info.size)).size=c * k:=by rw [h6];simp [madeCells]
  refine ⟨w.alloc (.cells (madeCells z.cells (c * info.size)) e),w.heap.size,_,e,.slice (some ⟨w.heap.size,0,none⟩) n c,?_,below_alloc w _,Nat.le_refl _,heap_alloc_new w _,?_,fun j hj=>?_,c,rfl,hnc,h63,_,e,(0,0),heap_alloc_new w _,?_⟩
  ·grind [execOp,evC,vOk]
  ·rw [hsz];exact Nat.mul_le_mul_right _ hnc
  ·refine hF j hj _ _ _ _ ?_
   have hj2:j<c * k:=Nat.lt_of_lt_of_le hj (Nat.mul_le_mul_right _ hnc)
   show _=_
   rw [h6]
   simp [madeCells,hj2]
  ·rw [hsz];omega) (fun g=>by rw [with_some hd];exact hK g)
end
end
section
section
variable {P:Program} {G:Gh} {ops:Array Oper} {o:Oper} {s:AS} {r:List Oper} {K:AS→Prop} {t u:TypeId} {x y:Operand} {env:List (Nat×CV)} {b0:Nat→CV} {H:List (Option Nat×Res)}
theorem exec_cap {ats:Array TypeId} (ho:o.op=.call ⟨.builtin .cap,#[x],ats⟩) {a:Act} {v:Value} {w:World} (h:(Builtin.cap_ ats o.type #[a.eval x]).run P w=.ok v w):(execOp a.eval o).run P w=.ok (.value v) w:=by
 simp [execOp,ho,resolve,invoke,builtin,h]
theorem rd_capN {e:TypeId} (ho:o.op=.call ⟨.builtin .cap,#[x],#[t]⟩) (hx:s.eval x=.c (.slice none 0 0)) (h1:P.underlying t=some (.slice e)):ARd P G o s (.c (.int .i64 0)):=fun St a w h =>
 ⟨_,fun W _=>exec_cap ho (v:=.int .i64 0) (by rw [evC h hx];simp [Builtin.cap_,underlying,h1,goInt]),rfl⟩
theorem rd_sliceN {e:TypeId} {m l v:Nat} {lo hi:Option Operand} (ho:o.op=.slice t x lo hi none) (hx:s.eval x=.c (.slice none 0 0)) (h1:P.underlying t=some (.slice e)) (h5:(P.info? e).map (·.size)=some m)
  (hl:Bd s 0 lo l) (hu:Bd s 0 hi v) (hlv:l≤v) (hvn:v≤0):ARd P G o s (.c (.slice none 0 0)):=fun St a w h=>by
 obtain ⟨info,hi',hs⟩:=Option.map_eq_some_iff.1 h5
 have hl0:l=0:=by omega
 have hv0:v=0:=by omega
 subst hl0 hv0
 refine ⟨.slice none 0 0,fun W _=>exec_slice ho ?_,rfl⟩
 rw [evC h hx]
 simp [Instr.sliceAt,Instr.slice,underlying,h1,run_bounds h hl hu hlv hvn (Nat.le_refl _),sizeOf,typeInfo,hi']
theorem run_app_zero {e ty:TypeId} {info:TypeInfo} {z:Value} {n:Nat} {w:World} (h1:P.underlying t=some (.slice e)) (hu:P.underlying u=some (.int .i64)) (hi:P.info? e=some info) (hz:info.zero=some z) (hk:0<info.size) (hn:0<n) (h63:n≤9223372036854775807) (h48:n * info.bytes≤140737488355328) :
  (Builtin.append_ #[t,u] ty #[.slice none 0 0,.int .i64 (n:Nat)]).run P w=.ok (.slice (some ⟨w.heap.size,0,none⟩) n (grownCap w n 0 e)) (w.drew.alloc (.cells (#[]++Builtin.zeroCells z.cells n++Builtin.zeroCells z.cells (grownCap w n 0 e-n)) e)):=by
 have hw:IntKind.i64.wrap (n:Int)=(n:Int):=wrap_id (k:=.i64) (by show _∧_;omega)
 have hneg:¬ ((n:Int)<0):=by omega
 have hb:¬ ((n:Int) * (info.bytes:Int)>2 ^ 48):=by
  have h:((n * info.bytes:Nat):Int)≤140737488355328:=by omega
  rw [Int.natCast_mul] at h;omega
 have hnot:¬ (0+n≤0):=by omega
 have hfit:=growslice_fits (need:=n) (old:=0) (by omega) h48
 have h49:¬ (Builtin.nextslicecap n 0 * info.bytes>2 ^ 48):=by omega
 have h64:¬ (((n:Nat):Int)>IntKind.i64.max∧(true=true∨info.bytes=0)):=by simp [IntKind.max,IntKind.bits,IntKind.signed];omega
 have hch:(choose (.appendCap n 0 e)).run P w=.ok (grownCap w n 0 e) w.drew:=by simp [Question.forced,grownCap]
 have hns:¬ (n * info.size=0):=by have:=Nat.mul_pos hn hk;omega
 simp only [Builtin.append_,List.getElem?_toArray,List.getElem?_cons_zero,List.getElem?_cons_succ,underlying,Sem.run_bind,run_program,Result.andThen_ok,h1,hu,Sem.run_pure,sizeOf,typeInfo,hi,asInt,asIntOf,hw,if_neg hneg,if_neg hb,Int.toNat_natCast,Nat.zero_add,if_true,if_neg (show ¬ n≤0 by omega),zeroValue,Builtin.firstCells,Bool.not_true,Bool.false_eq_true,if_false,if_neg hns,newRow]
 rw [if_neg (by simp_all)]
 simp only [Sem.run_bind,run_program,Result.andThen_ok,Sem.run_pure,hi,hz,if_neg h49,hch,run_askRoom,run_newObj,World.alloc_eq,World.size_drew]
theorem e_appZ {e:TypeId} {z:Value} {n k by_ d:Nat} {zn:Int} {F:Nat→CV} (ho:o.op=.call ⟨.builtin .append,#[x,y],#[t,u]⟩) (hx:(⟨env,b0,H⟩:AS).eval x=.c (.slice none 0 0)) (hy:(⟨env,b0,H⟩:AS).eval y=.c (.int .i64 zn)) (hn:zn=(n:Int)) (hn0:0<n) (h1:P.underlying t=some (.slice e)) (hu:P.underlying u=some (.int .i64)) (h5:(P.info? e).map (·.size)=some k) (hk0:0<k) (hz:(P.info? e).map (·.zero)=some (some z)) (hby:(P.info? e).map (·.bytes)=some by_)
  (h48:n * by_≤140737488355328) (h63:n≤4611686018427387904) (hzk:z.cells.size=k) (hd:o.dst=some d) (hN:Nat.blt d G.N=true)
  (hK:∀ g,K ⟨(d,.os H.length g 0 n k)::env,b0,H++[(g,.blk 0 F)]⟩):AEx P G o ⟨env,b0,H⟩ K :=
 AEx.new (dst_s hd hN) (fun g=>.os H.length g 0 n k) (fun St a w hr=>by
  obtain ⟨info,hi,h6⟩:=Option.map_eq_some_iff.1 h5
  obtain ⟨info',hi',hz⟩:=Option.map_eq_some_iff.1 hz
  obtain rfl:=Option.some.inj (hi.symm.trans hi')
  obtain ⟨info',hi',hby⟩:=Option.map_eq_some_iff.1 hby
  obtain rfl:=Option.some.inj (hi.symm.trans hi')
  subst hn
  have hrun:=run_app_zero (P:=P) (t:=t) (u:=u) (ty:=o.type) (w:=w) h1 hu hi hz (by omega) hn0 (by omega) (by rw [hby];exact h48)
  have hgc:n≤grownCap w n 0 e∧grownCap w n 0 e≤9223372036854775807:=by
   have hlt:=Nat.mod_lt (w.tape w.drawn (.appendCap n 0 e)) (show 0<2 ^ 63-n by omega)
   simp only [grownCap,Question.cut]
   omega
  have hsz:(#[]++Builtin.zeroCells z.cells n++Builtin.zeroCells z.cells (grownCap w n 0 e-n)).size=grownCap w n 0 e * k:=by
   simp [Builtin.zeroCells,hzk]
   rw [← Nat.add_mul]
   congr 1
   omega
  have hargs:(#[x,y]:Array Operand).map a.eval=#[a.eval x,a.eval y]:=by simp
  refine ⟨w.drew.alloc (.cells (#[]++Builtin.zeroCells z.cells n++Builtin.zeroCells z.cells (grownCap w n 0 e-n)) e),w.heap.size,_,e,.slice (some ⟨w.heap.size,0,none⟩) n (grownCap w n 0 e),?_,below_drewAlloc w _,Nat.le_refl _,heap_alloc_new w.drew _,Nat.zero_le _,fun j hj=>absurd hj (Nat.not_lt_zero j),grownCap w n 0 e,rfl,hgc.1,hgc.2,_,e,(0,0),heap_alloc_new w.drew _,?_⟩
  ·grind [exec_append,evC]
  ·rw [hsz];omega) (fun g=>by rw [with_some hd];exact hK g)
end
theorem CEnt.nilE {n:Nat} (h:n=0):CEnt (.c .nilIface) (.err n):=by subst h;exact CEnt.nil
def lbC (ls:List (List UInt8)):CV:=.rs 1 ls.length fun i _=>bsC (ls.getD i [])
theorem thawLB {G:Gh} {s:AS} (d:Nat) {i n N:Nat} {g:Option Nat} {cs:List CV} (ls:List (List UInt8)) (hl:look s.env s.b d=.os i g 0 n 1) (hH:s.H[i]?=some (g,.frz N (fl cs))) (hn:n=ls.length) (hN:Nat.ble n N=true) (he:EntL cs (ls.map bsC)) :
  EntS G s ⟨(d,lbC ls)::s.env,s.b,s.H⟩:=by
 subst hn
 have hN:=Nat.le_of_ble_eq_true hN
 exact thaw d (fun a _=>bsC (ls.getD a [])) hl hH (by omega) (fun a b ha hb=>by
  have:=(entl_at he).2 a
  rw [fl_at (cs:=ls.map bsC) (by simpa using ha)] at this
  obtain rfl:b=0:=by omega
  rw [show 0+(a * 1+0)=a by omega]
  simpa [List.getD,ha] using this)
def sumL (ls:List (List UInt8)):Nat:=(ls.map List.length).sum
theorem sumL_app (a b:List (List UInt8)):sumL (a++b)=sumL a+sumL b:=by simp only [sumL,List.map_append,List.sum_append]
theorem sumL_take {ls:List (List UInt8)} {i:Nat} (h:i<ls.length):sumL (ls.take (i+1))=sumL (ls.take i)+(ls.getD i []).length:=by
 grind [List.take_succ_eq_append_getElem,sumL]
theorem sumL_le (ls:List (List UInt8)) (i:Nat):sumL (ls.take i)≤sumL ls:=by
 grind [sumL_app,List.take_append_drop]
theorem flat_take {ls:List (List UInt8)} {i:Nat} (h:i<ls.length):(ls.take (i+1)).flatten=(ls.take i).flatten++ls.getD i []:=by
 rw [List.take_succ_eq_append_getElem h,List.flatten_append,List.flatten_singleton]
 simp_all
theorem flat_len (ls:List (List UInt8)):ls.flatten.length=sumL ls:=by simp [sumL,List.length_flatten]
end
section
structure Foot (al:List Addr) (St:Nat→Prop) (w:World) (F:Nat→Prop) (E:List (Option Nat×Res)) (fp:Nat→Nat→Prop):Prop where
 rep:∀ (i:Nat) (g:Option Nat) (r:Res),E[i]?=some (g,r)→r.rep al St w (fp i) g
 dis:∀ i j b,fp i b→fp j b→i=j
 out:∀ i,E.length≤i→∀ b,¬ fp i b
 all:∀ b,F b↔∃ i,fp i b
def packOP {γ:Type} (gd:γ→Nat) (E:γ→List (Option Nat×Res)):OP where
 p al St w g F:=∃ x,gd x=g∧∃ fp,Foot al St w F (E x) fp
 st:=fun he hs hF ⟨x,hx,fp,h⟩=>⟨x,hx,fp,fun i g r hi=>Res.rep_evo he hs (fun b hb=>hF b ((h.all b).2 ⟨i,hb⟩)) (h.rep i g r hi),h.dis,h.out,h.all⟩
def objE {γ:Type} (g:Nat) (gd:γ→Nat) (E:γ→List (Option Nat×Res)):Option Nat×Res:=(some g,.obj (packOP gd E))

theorem HRel.pack {al:List Addr} {St:Nat→Prop} {w:World} {base:Nat} {F0:Nat→Prop} {γ:Type} {gd:γ→Nat} {E:γ→List (Option Nat×Res)} (x:γ) {B:List (Option Nat×Res)} (h:HRel al St w base F0 (E x++B)):HRel al St w base F0 (objE (gd x) gd E::B):=by
 obtain ⟨fp,hp⟩:=h
 refine ⟨fun j b=>match j with|0=>∃ i,i<(E x).length∧fp i b|j+1=>fp ((E x).length+j) b,fun j g r hj=>?_,fun i j b hi hj=>?_,fun i b hi=>?_,fun i hi b hb=>?_⟩
 ·cases j with
  | zero =>
   simp only [objE,List.getElem?_cons_zero,Option.some.injEq,Prod.mk.injEq] at hj
   obtain ⟨rfl,rfl⟩:=hj
   refine ⟨x,rfl,fun i b=>i<(E x).length∧fp i b,fun i g r hi=>?_,fun i j b hi hj=>hp.dis i j b hi.2 hj.2,fun i hi b hb=>by omega,fun b=>Iff.rfl⟩
   have hlt:=(List.getElem?_eq_some_iff.1 hi).1
   have e:(fun b=>i<(E x).length∧fp i b)=fp i:=funext fun b=>propext ⟨fun h=>h.2,fun h=>⟨hlt,h⟩⟩
   show r.rep al St w (fun b=>i<(E x).length∧fp i b) g
   rw [e]
   exact hp.rep i g r (by grind)
  | succ j =>
   simp only [List.getElem?_cons_succ] at hj
   exact hp.rep _ g r (by grind)
 ·cases i with
  | zero =>
   cases j with
   | zero=>rfl
   | succ j=>obtain ⟨k,hk,hf⟩:=hi;have:=hp.dis _ _ b hf hj;omega
  | succ i =>
   cases j with
   | zero=>obtain ⟨k,hk,hf⟩:=hj;have:=hp.dis _ _ b hf hi;omega
   | succ j=>have:=hp.dis _ _ b hi hj;omega
 ·cases i with
  | zero=>obtain ⟨k,hk,hf⟩:=hi;exact hp.own _ b hf
  | succ i=>exact hp.own _ b hi
 ·cases i with
  | zero=>simp at hi
  | succ i=>exact hp.out _ (by simp at hi ⊢;omega) b hb
theorem HRel.unpack {al:List Addr} {St:Nat→Prop} {w:World} {base:Nat} {F0:Nat→Prop} {γ:Type} {gd:γ→Nat} {e0:γ→Option Nat×Res} {tl:γ→List (Option Nat×Res)} {H:List (Option Nat×Res)} {i g:Nat} (hH:H[i]?=some (objE g gd fun x=>e0 x::tl x)) (h:HRel al St w base F0 H) :
  ∃ x,gd x=g∧HRel al St w base F0 (H.set i (e0 x)++tl x):=by
 obtain ⟨fp,hp⟩:=h
 have hlt:=(List.getElem?_eq_some_iff.1 hH).1
 obtain ⟨x,hx,fe,he⟩:=hp.rep i _ _ hH
 refine ⟨x,hx,fun j b=>if j<H.length then (if j=i then fe 0 b else fp j b) else fe (j-H.length+1) b,fun j q r hj=>?_,fun j k b hj hk=>?_,fun j b hj=>?_,fun j hj b hb=>?_⟩
 ·by_cases h1:j<H.length
  ·rw [List.getElem?_append_left (by simpa using h1)] at hj
   by_cases h2:j=i
   ·subst h2
    simp [h1] at hj
    simp only [h1,if_true]
    exact he.rep 0 q r (by simp [hj])
   ·rw [List.getElem?_set_ne (Ne.symm h2)] at hj
    simp only [h1,h2,if_true,if_false]
    exact hp.rep j q r hj
  ·rw [List.getElem?_append_right (by simp;omega)] at hj
   simp only [h1,if_false]
   refine he.rep (j-H.length+1) q r ?_
   simpa using hj
 ·have inF:∀ q b,fe q b→fp i b:=fun q b hq=>(he.all b).2 ⟨q,hq⟩
  by_cases h1:j<H.length <;> by_cases h2:k<H.length <;> simp only [h1,h2,if_true,if_false] at hj hk
  ·by_cases h3:j=i <;> by_cases h4:k=i <;> simp only [h3,h4,if_true,if_false] at hj hk
   ·omega
   ·exact absurd (hp.dis _ _ b (inF _ _ hj) hk).symm h4
   ·exact absurd (hp.dis _ _ b hj (inF _ _ hk)) h3
   ·exact hp.dis _ _ b hj hk
  ·by_cases h3:j=i <;> simp only [h3,if_true,if_false] at hj
   ·have:=he.dis _ _ b hj hk;omega
   ·exact absurd (hp.dis _ _ b hj (inF _ _ hk)) h3
  ·by_cases h4:k=i <;> simp only [h4,if_true,if_false] at hk
   ·have:=he.dis _ _ b hj hk;omega
   ·exact absurd (hp.dis _ _ b hk (inF _ _ hj)) h4
  ·have:=he.dis _ _ b hj hk;omega
 ·have inF:∀ q b,fe q b→fp i b:=fun q b hq=>(he.all b).2 ⟨q,hq⟩
  by_cases h1:j<H.length <;> simp only [h1,if_true,if_false] at hj
  ·by_cases h3:j=i <;> simp only [h3,if_true,if_false] at hj
   ·exact hp.own i b (inF _ _ hj)
   ·exact hp.own j b hj
  ·exact hp.own i b (inF _ _ hj)
 ·have h1:¬ j<H.length:=by simp at hj;omega
  simp only [h1,if_false] at hb
  exact he.out _ (by simp at hj ⊢;omega) b hb
section
variable {P:Program} {G:Gh} {ops:Array Oper} {s:AS} {K:AS→Prop} {c:Code} {R:Exit→AS→Prop} {γ:Type} {gd:γ→Nat} {e0:γ→Option Nat×Res} {tl:γ→List (Option Nat×Res)}
theorem EntS.hrel {H':List (Option Nat×Res)} (h:∀ {al St w base F0},HRel al St w base F0 s.H→HRel al St w base F0 H'):EntS G s ⟨s.env,s.b,H'⟩:=fun St _ _ hr =>
 ⟨St,fun _ h=>h,hr.df,hr.sz,hr.env,hr.un,hr.s1,hr.s2,hr.s3,h hr.hp,hr.sn,hr.sg⟩
theorem pick_ent {H':List (Option Nat×Res)} (l:List Nat) (hl:l.Nodup) (hH:pickL s.H l=H'):EntS G s ⟨s.env,s.b,H'⟩:=EntS.hrel fun h=>h.pick l hl hH
theorem unpackRelSt {i g:Nat} (hH:s.H[i]?=some (objE g gd fun x=>e0 x::tl x)) {St:Nat→Prop} {a:Act} {w:World} (hr:RelSt G St s a w):∃ x,gd x=g∧RelSt G St ⟨s.env,s.b,s.H.set i (e0 x)++tl x⟩ a w:=by
 obtain ⟨x,hx,h2⟩:=hr.hp.unpack hH
 exact ⟨x,hx,hr.df,hr.sz,hr.env,hr.un,hr.s1,hr.s2,hr.s3,h2,hr.sn,hr.sg⟩
theorem unpackRel {i g:Nat} (hH:s.H[i]?=some (objE g gd fun x=>e0 x::tl x)) {a:Act} {w:World} (h:Rel G s a w):∃ x,gd x=g∧Rel G ⟨s.env,s.b,s.H.set i (e0 x)++tl x⟩ a w:=by
 obtain ⟨St,hr⟩:=h
 obtain ⟨x,hx,h2⟩:=unpackRelSt hH hr
 exact ⟨x,hx,St,h2⟩
theorem code_unpack (i:Nat) {g:Nat} (hH:s.H[i]?=some (objE g gd fun x=>e0 x::tl x)) (h:∀ x,gd x=g→ACode P G c ⟨s.env,s.b,s.H.set i (e0 x)++tl x⟩ R):ACode P G c s R:=fun a w hr Q hQ=>by
 obtain ⟨x,hx,h2⟩:=unpackRel hH hr
 exact h x hx a w h2 Q hQ
end
end
section
theorem HRel.weak {al:List Addr} {St:Nat→Prop} {w:World} {base:Nat} {F0:Nat→Prop} {H:List (Option Nat×Res)} {i n m:Nat} {g:Option Nat} {f F:Nat→CV} (hi:H[i]?=some (g,.blk n f)) (hm:m≤n) (hF:∀ j,j<m→CEnt (f j) (F j)) (h:HRel al St w base F0 H):HRel al St w base F0 (H.set i (g,.blk m F)):=by
 obtain ⟨fp,hp⟩:=h
 have hlt:=(List.getElem?_eq_some_iff.1 hi).1
 refine ⟨fp,fun j q r hj=>?_,hp.dis,hp.own,fun j hj=>hp.out j (by simpa using hj)⟩
 by_cases e:j=i
 ·subst e
  simp [hlt] at hj
  obtain ⟨rfl,rfl⟩:=hj
  have:=hp.rep j g _ hi
  cases g with
  | none=>exact ⟨by have:=this.1;omega,this.2⟩
  | some g =>
   obtain ⟨h0,cur,t,h1,h2,h3⟩:=this
   exact ⟨h0,cur,t,h1,by omega,fun a ha=>hF a ha _ _ _ _ (h3 a (by omega))⟩
 ·rw [List.getElem?_set_ne (Ne.symm e)] at hj
  exact hp.rep j q r hj
def killL (H:List (Option Nat×Res)) (js:List Nat):List (Option Nat×Res):=js.foldl (fun H j=>H.set j (none,.dead)) H
theorem killL_len:∀ (js:List Nat) (H:List (Option Nat×Res)),(killL H js).length=H.length
 | [],_=>rfl
 | j::js,H=>by
  have:=killL_len js (H.set j (none,.dead))
  rw [List.length_set] at this
  exact this
theorem killL_at:∀ (js:List Nat) (H:List (Option Nat×Res)) (q:Nat),q<H.length→(killL H js)[q]?=if q ∈ js then some (none,.dead) else H[q]?
 | [],_,_,_=>by simp [killL]
 | j::js,H,q,hq=>by
  have:=killL_at js (H.set j (none,.dead)) q (by simpa using hq)
  show (killL (H.set j (none,.dead)) js)[q]?=_
  rw [this]
  by_cases h1:q ∈ js
  ·rw [if_pos h1,if_pos (List.mem_cons_of_mem _ h1)]
  ·rw [if_neg h1]
   by_cases h2:q=j
   ·subst h2
    rw [if_pos List.mem_cons_self]
    simp [hq]
   ·rw [if_neg (by simp [h1,h2]),List.getElem?_set_ne (Ne.symm h2)]
theorem HRel.closeN {al:List Addr} {St:Nat→Prop} {w:World} {base:Nat} {F0:Nat→Prop} {γ:Type} {gd:γ→Nat} {E:γ→List (Option Nat×Res)} {H:List (Option Nat×Res)} (x:γ) (i:Nat) (js:List Nat) (hnd:(i::js).Nodup) (hlt:∀ j ∈ i::js,j<H.length) (hE:pickL H (i::js)=E x) (h:HRel al St w base F0 H) :
  HRel al St w base F0 (killL (H.set i (objE (gd x) gd E)) js):=by
 obtain ⟨fp,hp⟩:=h
 have hi:i<H.length:=hlt i List.mem_cons_self
 have hij:i ∉ js:=(List.nodup_cons.1 hnd).1
 refine ⟨fun q b=>if q=i then ∃ p:Nat,∃ j,(i::js)[p]?=some j∧fp j b else if q ∈ js then False else fp q b,fun q g r hq=>?_,fun p q b h1 h2=>?_,fun q b hq=>?_,fun q hq b hb=>?_⟩
 ·have hql:q<H.length:=by
   have:=(List.getElem?_eq_some_iff.1 hq).1
   rwa [killL_len,List.length_set] at this
  rw [killL_at _ _ _ (by simpa using hql)] at hq
  by_cases e:q=i
  ·subst e
   rw [if_neg hij] at hq
   simp [hi] at hq
   obtain ⟨rfl,rfl⟩:=hq
   simp only [if_true]
   refine ⟨x,rfl,fun p b=>∃ j,(q::js)[p]?=some j∧fp j b,fun p g r hp1=>?_,fun p1 p2 b h1 h2=>?_,fun p hp1 b hb=>?_,fun b=>Iff.rfl⟩
   ·rw [← hE,pickL,List.getElem?_map,Option.map_eq_some_iff] at hp1
    obtain ⟨j,hj,he⟩:=hp1
    have hjl:=hlt j (List.mem_of_getElem? hj)
    have e:(fun b=>∃ j,(q::js)[p]?=some j∧fp j b)=fp j:=funext fun b=>propext ⟨fun ⟨j',h1,h2⟩=>by simp_all,fun h=>⟨j,hj,h⟩⟩
    show r.rep al St w (fun b=>∃ j,(q::js)[p]?=some j∧fp j b) g
    rw [e]
    refine hp.rep j g r ?_
    simp_all
   ·obtain ⟨j1,a1,b1⟩:=h1
    obtain ⟨j2,a2,b2⟩:=h2
    have:=hp.dis _ _ b b1 b2
    grind [List.getElem?_inj]
   grind [pickL]
  ·by_cases e2:q ∈ js
   ·rw [if_pos e2] at hq
    cases hq
    simp only [e,e2,if_true,if_false]
    exact fun b hb=>hb
   ·rw [if_neg e2,List.getElem?_set_ne (Ne.symm e)] at hq
    simp only [e,e2,if_false]
    exact hp.rep q g r hq
 ·have mem:∀ {b:Nat},(∃ p:Nat,∃ j,(i::js)[p]?=some j∧fp j b)→∃ j,j ∈ i::js∧fp j b:=fun ⟨p,j,h1,h2⟩=>⟨j,List.mem_of_getElem? h1,h2⟩
  by_cases e1:p=i <;> by_cases e2:q=i
  ·rw [e1,e2]
  ·simp only [e1,e2,if_true,if_false] at h1 h2
   by_cases e3:q ∈ js
   ·simp_all
   ·simp only [e3,if_false] at h2
    obtain ⟨j,hj,hb⟩:=mem h1
    have:=hp.dis _ _ b hb h2
    simp_all
  ·simp only [e1,e2,if_true,if_false] at h1 h2
   by_cases e3:p ∈ js
   ·simp_all
   ·simp only [e3,if_false] at h1
    obtain ⟨j,hj,hb⟩:=mem h2
    have:=hp.dis _ _ b hb h1
    simp_all
  ·simp only [e1,e2,if_false] at h1 h2
   by_cases e3:p ∈ js
   ·simp_all
   ·by_cases e4:q ∈ js
    ·simp_all
    ·simp only [e3,e4,if_false] at h1 h2
     exact hp.dis _ _ b h1 h2
 ·by_cases e1:q=i
  ·simp only [e1,if_true] at hq
   obtain ⟨p,j,_,hb⟩:=hq
   exact hp.own _ b hb
  ·by_cases e2:q ∈ js
   ·simp_all
   ·simp only [e1,e2,if_false] at hq
    exact hp.own _ b hq
 ·rw [killL_len,List.length_set] at hq
  have e1:q≠i:=by omega
  by_cases e2:q ∈ js
  ·simp_all
  ·simp only [e1,e2,if_false] at hb
   exact hp.out q hq b hb
section
variable {P:Program} {G:Gh} {ops:Array Oper} {s:AS} {K:AS→Prop} {c:Code} {R:Exit→AS→Prop} {γ:Type} {gd:γ→Nat}
theorem weakH (i m:Nat) (F:Nat→CV) {n:Nat} {g:Option Nat} {f:Nat→CV} (hi:s.H[i]?=some (g,.blk n f)) (hm:m≤n) (hF:∀ j,j<m→CEnt (f j) (F j)):EntS G s ⟨s.env,s.b,s.H.set i (g,.blk m F)⟩:=EntS.hrel fun h=>h.weak hi hm hF
theorem closeN {E:γ→List (Option Nat×Res)} (x:γ) (i:Nat) (js:List Nat) (hnd:(i::js).Nodup) (hlt:∀ j ∈ i::js,j<s.H.length) (hE:pickL s.H (i::js)=E x):EntS G s ⟨s.env,s.b,killL (s.H.set i (objE (gd x) gd E)) js⟩:=EntS.hrel fun h=>h.closeN x i js hnd hlt hE
theorem end_pack {fn:Func} {Q:CV→List (Option Nat×Res)→Prop} {e:Exit} {γ:Type} {gd:γ→Nat} {E:γ→List (Option Nat×Res)} (he:e=.ret∨e=.normal) (v:CV) (z:γ) (l:List Nat) (hl:l.Nodup) (hH:pickL s.H l=E z++[]) (hres:ARes P G fn s v) (hq:Q v [objE (gd z) gd E]):bodyR P G fn Q e s:=by
 have h:∃ r H',ARes P G fn s r∧Q r H'∧∀ St a w,RelSt G St s a w→HRel G.al St w G.w0.heap.size G.F0 H':=⟨v,_,hres,hq,fun _ _ _ hr=>(hr.hp.pick l hl hH).pack z⟩
 rcases he with rfl|rfl <;> exact h
theorem end_packV {fn:Func} {e:Exit} {γ:Type} {gd:γ→Nat} {E:γ→List (Option Nat×Res)} {v m:CV} (he:e=.ret∨e=.normal) (z:γ) (l:List Nat) (hl:l.Nodup) (hH:pickL s.H l=E z++[]) (hres:ARes P G fn s v) (hv:CEnt v m):bodyR P G fn (fun r H'=>r=m∧H'=[objE (gd z) gd E]) e s:=end_pack he m z l hl hH (hres.ent hv) ⟨rfl,rfl⟩
theorem code_knowG {P:Program} {G:Gh} {c:Code} {s:AS} {R:Exit→AS→Prop} {φ:Prop} (hφ:∀ a w,Rel G s a w→φ) (h:φ→ACode P G c s R):ACode P G c s R:=fun a w hr Q hQ=>h (hφ a w hr) a w hr Q hQ
theorem know_op {G:Gh} {s:AS} (d:Nat) {i off:Nat} {g:Option Nat} (hl:look s.env s.b d=.op i g off):∀ a w,Rel G s a w→∃ n,g=some n:=fun a w ⟨St,hr⟩=>by
 have:=evR hr (x:=.tmp d) hl
 obtain ⟨b,hb,_⟩:=this
 exact ⟨b,hb⟩
theorem end_ownV {fn:Func} {Q:CV→List (Option Nat×Res)→Prop} {e:Exit} {v m:CV} {H':List (Option Nat×Res)} (he:e=.ret∨e=.normal) (l:List Nat) (hl:l.Nodup) (hH:pickL s.H l=H') (hres:ARes P G fn s v) (hv:CEnt v m) (hq:Q m H'):bodyR P G fn Q e s:=end_own he m H' l hl hH (hres.ent hv) hq
theorem end_H {fn:Func} {e:Exit} {v m:CV} {x:Option Nat×Res} (he:e=.ret∨e=.normal) (hH:s.H[0]?=some x) (hres:ARes P G fn s v) (hv:CEnt v m):bodyR P G fn (fun r H'=>r=m∧H'=[x]) e s :=
 end_own he m [x] [0] (by decide) (by simp [pickL,List.getD,hH]) (hres.ent hv) ⟨rfl,rfl⟩
end
end
section
def bagE (L:List (Option Nat×Res)):Option Nat×Res:=objE 0 (fun _:Unit=>0) (fun _=>L)
theorem HRel.bag_push {al:List Addr} {St:Nat→Prop} {w:World} {base:Nat} {F0:Nat→Prop} {H L:List (Option Nat×Res)} {i b:Nat} {x:Option Nat×Res} (hb:H[b]?=some (bagE L)) (hi:H[i]?=some x) (hib:i≠b) (h:HRel al St w base F0 H) :
  HRel al St w base F0 ((H.set b (bagE (x::L))).set i (Option.none,.dead)):=by
 obtain ⟨fp,hp⟩:=h
 have hbl:=(List.getElem?_eq_some_iff.1 hb).1
 have hil:=(List.getElem?_eq_some_iff.1 hi).1
 obtain ⟨u,_,fe,he⟩:=hp.rep b _ _ hb
 refine ⟨fun q c=>if q=i then False else if q=b then fp i c∨fp b c else fp q c,fun q g r hq=>?_,fun p q c h1 h2=>?_,fun q c hq=>?_,fun q hq c hc=>?_⟩
 ·by_cases e1:q=i
  ·subst e1
   simp [hil] at hq
   obtain ⟨rfl,rfl⟩:=hq
   simp only [if_true]
   exact fun c hc=>hc
  ·rw [List.getElem?_set_ne (Ne.symm e1)] at hq
   by_cases e2:q=b
   ·subst e2
    simp [hbl,bagE,objE] at hq
    obtain ⟨rfl,rfl⟩:=hq
    simp only [e1,if_true,if_false]
    refine ⟨(),rfl,fun k c=>match k with|0=>fp i c|k+1=>fe k c,fun k g r hk=>?_,fun j k c hj hk=>?_,fun k hk c hc=>?_,fun c=>⟨fun hc=>?_,fun ⟨k,hk⟩=>?_⟩⟩
    ·cases k with
     | zero =>
      simp only [List.getElem?_cons_zero,Option.some.injEq] at hk
      exact hp.rep i g r (by rw [hi,hk])
     | succ k=>exact he.rep k g r (by simpa using hk)
    ·cases j with
     | zero =>
      cases k with
      | zero=>rfl
      | succ k=>exact absurd (hp.dis _ _ c hj ((he.all c).2 ⟨k,hk⟩)) (fun e=>hib e)
     | succ j =>
      cases k with
      | zero=>exact absurd (hp.dis _ _ c hk ((he.all c).2 ⟨j,hj⟩)) (fun e=>hib e)
      | succ k=>rw [he.dis j k c hj hk]
    ·cases k with
     | zero=>simp at hk
     | succ k=>exact he.out k (by simpa using hk) c hc
    ·rcases hc with hc|hc
     ·exact ⟨0,hc⟩
     ·obtain ⟨k,hk⟩:=(he.all c).1 hc
      exact ⟨k+1,hk⟩
    ·cases k with
     | zero=>exact .inl hk
     | succ k=>exact .inr ((he.all c).2 ⟨k,hk⟩)
   ·rw [List.getElem?_set_ne (Ne.symm e2)] at hq
    simp only [e1,e2,if_false]
    exact hp.rep q g r hq
 ·by_cases e1:p=i
  ·simp_all
  ·by_cases e2:q=i
   ·simp_all
   ·simp only [e1,e2,if_false] at h1 h2
    by_cases e3:p=b <;> by_cases e4:q=b <;> simp only [e3,e4,if_true,if_false] at h1 h2
    ·rw [e3,e4]
    ·rcases h1 with h1|h1
     ·exact absurd (hp.dis _ _ c h1 h2).symm e2
     ·exact absurd (hp.dis _ _ c h1 h2).symm e4
    ·rcases h2 with h2|h2
     ·exact absurd (hp.dis _ _ c h1 h2) e1
     ·exact absurd (hp.dis _ _ c h1 h2) e3
    ·exact hp.dis _ _ c h1 h2
 ·by_cases e1:q=i
  ·simp_all
  ·by_cases e2:q=b
   ·rw [if_neg e1,if_pos e2] at hq
    rcases hq with hq|hq
    ·exact hp.own _ c hq
    ·exact hp.own _ c hq
   ·rw [if_neg e1,if_neg e2] at hq
    exact hp.own _ c hq
 ·simp only [List.length_set] at hq
  rw [if_neg (by omega),if_neg (by omega)] at hc
  exact hp.out q hq c hc
theorem HRel.bag_pop {al:List Addr} {St:Nat→Prop} {w:World} {base:Nat} {F0:Nat→Prop} {H L:List (Option Nat×Res)} {b:Nat} {x:Option Nat×Res} (hb:H[b]?=some (bagE (x::L))) (h:HRel al St w base F0 H) :
  HRel al St w base F0 (H.set b (bagE L)++[x]):=by
 obtain ⟨fp,hp⟩:=h
 have hbl:=(List.getElem?_eq_some_iff.1 hb).1
 obtain ⟨u,_,fe,he⟩:=hp.rep b _ _ hb
 have inB:∀ k c,fe k c→fp b c:=fun k c hk=>(he.all c).2 ⟨k,hk⟩
 refine ⟨fun q c=>if q=H.length then fe 0 c else if q=b then ∃ k,fe (k+1) c else fp q c,fun q g r hq=>?_,fun p q c h1 h2=>?_,fun q c hq=>?_,fun q hq c hc=>?_⟩
 ·by_cases e1:q=H.length
  ·subst e1
   rw [List.getElem?_append_right (by simp)] at hq
   simp at hq
   simp only [if_true]
   exact he.rep 0 g r (by rw [hq];rfl)
  ·have hql:q<H.length:=by
    have:=(List.getElem?_eq_some_iff.1 hq).1
    simp at this
    omega
   rw [List.getElem?_append_left (by simpa using hql)] at hq
   simp only [e1,if_false]
   by_cases e2:q=b
   ·subst e2
    simp [hbl,bagE,objE] at hq
    obtain ⟨rfl,rfl⟩:=hq
    simp only [if_true]
    refine ⟨(),rfl,fun k c=>fe (k+1) c,fun k g r hk=>he.rep (k+1) g r (by simpa using hk),fun j k c hj hk=>by have:=he.dis _ _ c hj hk;omega,fun k hk c hc=>he.out (k+1) (by simp;omega) c hc,fun c=>Iff.rfl⟩
   ·rw [List.getElem?_set_ne (Ne.symm e2)] at hq
    simp only [e2,if_false]
    exact hp.rep q g r hq
 ·by_cases e1:p=H.length <;> by_cases e2:q=H.length
  ·rw [e1,e2]
  ·rw [if_pos e1] at h1
   rw [if_neg e2] at h2
   by_cases e3:q=b
   ·rw [if_pos e3] at h2
    obtain ⟨k,hk⟩:=h2
    have:=he.dis _ _ c h1 hk
    omega
   ·rw [if_neg e3] at h2
    exact absurd (hp.dis _ _ c (inB _ _ h1) h2).symm e3
  ·rw [if_neg e1] at h1
   rw [if_pos e2] at h2
   by_cases e3:p=b
   ·rw [if_pos e3] at h1
    obtain ⟨k,hk⟩:=h1
    have:=he.dis _ _ c h2 hk
    omega
   ·rw [if_neg e3] at h1
    exact absurd (hp.dis _ _ c (inB _ _ h2) h1).symm e3
  ·rw [if_neg e1] at h1
   rw [if_neg e2] at h2
   by_cases e3:p=b <;> by_cases e4:q=b <;> simp only [e3,e4,if_true,if_false] at h1 h2
   ·rw [e3,e4]
   ·obtain ⟨k,hk⟩:=h1
    exact absurd (hp.dis _ _ c (inB _ _ hk) h2).symm e4
   ·obtain ⟨k,hk⟩:=h2
    exact absurd (hp.dis _ _ c (inB _ _ hk) h1).symm e3
   ·exact hp.dis _ _ c h1 h2
 ·by_cases e1:q=H.length
  ·rw [if_pos e1] at hq
   exact hp.own b c (inB _ _ hq)
  ·rw [if_neg e1] at hq
   by_cases e2:q=b
   ·rw [if_pos e2] at hq
    obtain ⟨k,hk⟩:=hq
    exact hp.own b c (inB _ _ hk)
   ·rw [if_neg e2] at hq
    exact hp.own q c hq
 ·simp at hq
  rw [if_neg (by omega),if_neg (by omega)] at hc
  exact hp.out q (by omega) c hc
theorem HRel.bag_new {al:List Addr} {St:Nat→Prop} {w:World} {base:Nat} {F0:Nat→Prop} {H:List (Option Nat×Res)} (h:HRel al St w base F0 H):HRel al St w base F0 (H++[bagE []]):=by
 obtain ⟨fp,hp⟩:=h
 refine ⟨fp,fun q g r hq=>?_,hp.dis,hp.own,fun q hq c hc=>hp.out q (by simp at hq;omega) c hc⟩
 by_cases e1:q<H.length
 ·rw [List.getElem?_append_left e1] at hq
  exact hp.rep q g r hq
 ·rw [List.getElem?_append_right (by omega)] at hq
  have hno:∀ c,¬ fp q c:=fun c hc=>hp.out q (by omega) c hc
  have e2:q-H.length=0:=by
   have:=(List.getElem?_eq_some_iff.1 hq).1
   simp at this
   omega
  rw [e2] at hq
  simp [bagE,objE] at hq
  obtain ⟨rfl,rfl⟩:=hq
  exact ⟨(),rfl,fun _ _=>False,fun k g r hk=>by simp at hk,fun _ _ _ h=>h.elim,fun _ _ _ h=>h,fun c=>⟨fun hc=>(hno c hc).elim,fun ⟨_,hk⟩=>hk.elim⟩⟩
section
variable {G:Gh} {env:List (Nat×CV)} {b0:Nat→CV} {H L:List (Option Nat×Res)} {x:Option Nat×Res}
theorem bag_push (b i:Nat) (hb:H[b]?=some (bagE L)) (hi:H[i]?=some x) (hib:Nat.beq i b=false):EntS G ⟨env,b0,H⟩ ⟨env,b0,(H.set b (bagE (x::L))).set i (none,.dead)⟩:=EntS.hrel fun h=>h.bag_push hb hi (Nat.ne_of_beq_eq_false hib)
theorem bag_pop (b:Nat) (hb:H[b]?=some (bagE (x::L))):EntS G ⟨env,b0,H⟩ ⟨env,b0,H.set b (bagE L)++[x]⟩:=EntS.hrel fun h=>h.bag_pop hb
theorem bag_new:EntS G ⟨env,b0,H⟩ ⟨env,b0,H++[bagE []]⟩:=EntS.hrel fun h=>h.bag_new
end
theorem HRel.osRs {al:List Addr} {St:Nat→Prop} {w:World} {base:Nat} {F0:Nat→Prop} {H:List (Option Nat×Res)} {i q off n m N:Nat} {g:Option Nat} {F:Nat→CV} {f:Nat→Nat→CV} {v:Value} (h:HRel al St w base F0 H) (hH:H[i]?=some (g,.frz N F)) (hN:off+n * m≤N) (hf:∀ a b,a<n→b<m→CEnt (F (off+(a * m+b))) (f a b)) (he:RepC al St w (.os q g off n m) v):RepC al St w (.rs m n f) v:=by
 cases g with
 | none =>
  obtain ⟨h1,h2⟩:=he
  subst h1
  exact ⟨_,0,h2,Nat.le_refl _,by decide,fun _=>rfl,fun _ h=>by cases h⟩
 | some g =>
  obtain ⟨cap,h1,h2,h3,_⟩:=he
  obtain ⟨fp,hp⟩:=h
  obtain ⟨_,hg,cur,t,z,hh,hle,hc⟩:=hp.rep i (some g) _ hH
  refine ⟨_,cap,h1,h2,h3,(fun h=>by cases h),fun ad ha _=>?_⟩
  cases ha
  refine ⟨rfl,hg,fun p q hp' hq=>?_⟩
  have hb:p * m+q<n * m:=by
   have:p * m+m≤n * m:=by rw [← Nat.succ_mul];exact Nat.mul_le_mul_right _ hp'
   omega
  have hlt:off+(p * m+q)<cur.size:=by omega
  refine ⟨cur.getD (off+(p * m+q)) undef,?_,hf p q hp' hq _ _ _ _ (hc _ (by omega))⟩
  show w.cell? ⟨g,off+(p * m+q),Option.none⟩=_
  rw [cell_of_row w g _ cur t z hh];simp [hlt]
theorem HRel.thawC {al:List Addr} {St:Nat→Prop} {w:World} {base:Nat} {F0:Nat→Prop} {H:List (Option Nat×Res)} {b j0 i q off n m M N:Nat} {g gb:Option Nat} {B B' F:Nat→CV} {f:Nat→Nat→CV} (hb:H[b]?=some (gb,.blk M B)) (hH:H[i]?=some (g,.frz N F)) (hB:CEnt (B j0) (.os q g off n m)) (hB0:CEnt (.rs m n f) (B' j0)) (hB':∀ j,j<M→j≠j0→CEnt (B j) (B' j)) (hN:off+n * m≤N) (hf:∀ a b,a<n→b<m→CEnt (F (off+(a * m+b))) (f a b)) (h:HRel al St w base F0 H) :
  HRel al St w base F0 (H.set b (gb,.blk M B')):=by
 have hk:=fun {v}=>h.osRs (v:=v) hH hN hf (q:=q)
 obtain ⟨fp,hp⟩:=h
 have hlt:=(List.getElem?_eq_some_iff.1 hb).1
 refine ⟨fp,fun j q r hj=>?_,hp.dis,hp.own,fun j hj=>hp.out j (by simpa using hj)⟩
 by_cases e:j=b
 ·subst e
  simp [hlt] at hj
  obtain ⟨rfl,rfl⟩:=hj
  have:=hp.rep j gb _ hb
  cases gb with
  | none=>exact this
  | some gb =>
   obtain ⟨h0,cur,t,h1,h2,h3⟩:=this
   refine ⟨h0,cur,t,h1,h2,fun a ha=>?_⟩
   by_cases ea:a=j0
   ·subst ea
    exact hB0 _ _ _ _ (hk (hB _ _ _ _ (h3 a ha)))
   ·exact hB' a ha ea _ _ _ _ (h3 a ha)
 ·rw [List.getElem?_set_ne (Ne.symm e)] at hj
  exact hp.rep j q r hj
section
variable {G:Gh} {env:List (Nat×CV)} {b0:Nat→CV} {H:List (Option Nat×Res)}
theorem thawC (b j0 i:Nat) (B':Nat→CV) (f:Nat→Nat→CV) {q off n m M N:Nat} {g gb:Option Nat} {B F:Nat→CV} (hb:H[b]?=some (gb,.blk M B)) (hH:H[i]?=some (g,.frz N F)) (hB:CEnt (B j0) (.os q g off n m)) (hB0:CEnt (.rs m n f) (B' j0)) (hB':∀ j,j<M→j≠j0→CEnt (B j) (B' j)) (hN:off+n * m≤N) (hf:∀ a b,a<n→b<m→CEnt (F (off+(a * m+b))) (f a b)) :
  EntS G ⟨env,b0,H⟩ ⟨env,b0,H.set b (gb,.blk M B')⟩:=EntS.hrel fun h=>h.thawC hb hH hB hB0 hB' hN hf
theorem thawA (d i:Nat) (f:Nat→Nat→CV) (c0:CV) {q off n m N:Nat} {g:Option Nat} {A F:Nat→CV} (hl:look env b0 d=.agg 2 A) (hH:H[i]?=some (g,.frz N F)) (h0:CEnt (A 0) c0) (h1:CEnt (A 1) (.os q g off n m)) (hN:off+n * m≤N) (hf:∀ a b,a<n→b<m→CEnt (F (off+(a * m+b))) (f a b)) :
  EntS G ⟨env,b0,H⟩ ⟨(d,.agg 2 (fl [c0,.rs m n f]))::env,b0,H⟩:=fun St a w hr=>by
 refine ⟨St,fun _ h=>h,hr.df,hr.sz,fun e=>?_,hr.un,hr.s1,hr.s2,hr.s3,hr.hp,hr.sn,hr.sg⟩
 by_cases hde:d=e
 ·subst hde
  rw [look_same]
  have he:=hr.env d
  rw [hl] at he
  obtain ⟨cs,k1,k2,k3⟩:=he
  refine ⟨cs,k1,k2,fun j hj=>?_⟩
  rcases j with _|_|j
  ·exact h0 _ _ _ _ (k3 0 (by omega))
  ·exact hr.hp.osRs hH hN hf (h1 _ _ _ _ (k3 1 (by omega)))
  ·omega
 ·rw [look_other _ _ _ hde];exact hr.env e
end
theorem end_hr {P:Program} {G:Gh} {fn:Func} {Q:CV→List (Option Nat×Res)→Prop} {e:Exit} {env:List (Nat×CV)} {b0:Nat→CV} {H H':List (Option Nat×Res)} (h:∀ {al St w base F0},HRel al St w base F0 H→HRel al St w base F0 H') (hb:bodyR P G fn Q e ⟨env,b0,H'⟩):bodyR P G fn Q e ⟨env,b0,H⟩:=by
 have cv:∀ {St a w},RelSt G St ⟨env,b0,H⟩ a w→RelSt G St ⟨env,b0,H'⟩ a w:=fun hr=>⟨hr.df,hr.sz,hr.env,hr.un,hr.s1,hr.s2,hr.s3,h hr.hp,hr.sn,hr.sg⟩
 cases e with
 | normal =>
  obtain ⟨r,K,k1,k2,k3⟩:=hb
  exact ⟨r,K,fun St a w hr=>k1 St a w (cv hr),k2,fun St a w hr=>k3 St a w (cv hr)⟩
 | ret =>
  obtain ⟨r,K,k1,k2,k3⟩:=hb
  exact ⟨r,K,fun St a w hr=>k1 St a w (cv hr),k2,fun St a w hr=>k3 St a w (cv hr)⟩
 | _=>exact hb
section
variable {P:Program} {G:Gh} {o:Oper} {env:List (Nat×CV)} {b0:Nat→CV} {H:List (Option Nat×Res)} {K:AS→Prop}
theorem m_callHV {f:FuncId} {v:Operand} {n:Nat} {fv:Nat→CV} {xs:Array Operand} {ats:Array TypeId} {args:List CV} {Q:CV→List (Option Nat×Res)→Prop} {i:Nat} {x0:Option Nat×Res} (ho:o.op=.call ⟨.value v,xs,ats⟩) (hv:(⟨env,b0,H⟩:AS).eval v=.fn f n fv) (hc:calleeB P f=true) (hi:H[i]?=some x0) (hA:AC G.gs P f [x0] args Q)
  (he:EntL (xs.toList.map (⟨env,b0,H⟩:AS).eval++(List.range n).map fv) args) (hd:dstOk G o=true)
  (hK:∀ r H',Q r H'→∃ x,H'=[x]∧K ((⟨env,b0,H⟩:AS).with o.dst r (H.set i x))):AMd P G o ⟨env,b0,H⟩ K:=fun St a w hr Q'=>by
 obtain ⟨cs,hcs,hn,hf⟩:=evR hr hv
 unfold Oper.wp
 rw [exec_callv ho hc a hcs]
 have hl:=entL_len he
 simp at hl
 obtain ⟨fp,hp⟩:=hr.hp
 have hlt:i<H.length:=(List.getElem?_eq_some_iff.1 hi).1
 obtain ⟨g0,r0⟩:=x0
 have hent:Entry G.gs G.al St (fp i) [(g0,r0)] w:=by
  refine ⟨hr.s3,hr.sn,hr.sg,⟨fun j b=>j=0∧fp i b,fun j g r hj=>?_,fun j l b hj hl=>by omega,fun j b hj=>⟨(hp.own i b hj.2).1,(hp.own i b hj.2).2.1,.inr hj.2⟩,fun j hj b hb=>by simp at hj;omega⟩,fun b hb=>(hp.own i b hb).2.1⟩
  match j,hj with
  | 0,hj =>
   simp at hj
   obtain ⟨rfl,rfl⟩:=hj
   have e:(fun b=>(0:Nat)=0∧fp i b)=fp i:=funext fun b=>by simp
   show r0.rep G.al St w (fun b=>(0:Nat)=0∧fp i b) g0
   rw [e]
   exact hp.rep i g0 r0 hi
  | j+1,hj=>simp at hj
 refine (hA G.al w St _ _ hent (by simp [hn,hl]) (fun i=>?_)).mono ?_
 ·by_cases hi:i<args.length
  ·refine entL_get he i _ _ _ _ ?_
   rw [fl_append]
   by_cases h1:i<xs.size
   ·rw [if_pos (by simpa using h1),fl_get]
    simp [List.getD,h1,Array.getElem?_append_left]
    exact hr.eval _
   ·rw [if_neg (by simpa using h1),fl_get]
    have h2:i-xs.size<n:=by omega
    simp_all
  ·rw [fl_none args i (by omega)];trivial
 rintro e w' ⟨v,r,H',St',rfl,hq,hv,hu,h3,h4,h5,h6⟩
 obtain ⟨x,rfl,hk⟩:=hK r H' hq
 refine ⟨fun b hb=>hu.block b (hr.s3 b hb) fun hf=>(hp.own i b hf).2.1 hb,St',h3,_,hk,?_⟩
 have h7:=(hr.afterH hp hlt hu h3 h4 h5 h6).put (dst:=o.dst) (v:=r) (x:=v) (dst_of hd) hv
 cases ho:o.dst with
 | none=>rw [ho] at h7;exact h7
 | some d=>rw [ho] at h7;exact h7
end
end
section
def iterOP (l:ByteArray) (pos:Nat):OP where
 p al St w g F:=(∀ b,F b↔b=g)∧w.heap[g]?=some (.stringIter l pos)
 st:=fun he hs hF ⟨h1,h2⟩=>⟨h1,(hF _ ((h1 _).2 rfl)).trans h2⟩
section
variable {P:Program} {G:Gh} {ops:Array Oper} {o:Oper} {s:AS} {r:List Oper} {K:AS→Prop} {t u:TypeId} {x y:Operand} {env:List (Nat×CV)} {b0:Nat→CV} {H:List (Option Nat×Res)}
theorem under_below {w w':World} (h:Below w.heap.size w w'):Under (fun _=>False) w w':=(Under.refl _ w).then h
theorem RelSt.freshObj {St:Nat→Prop} {a:Act} {w w':World} {g:Nat} {p:OP} (h:RelSt G St s a w) (hb:Below w.heap.size w w') (h1:w.heap.size≤g) (h2:g<w'.heap.size) (hp:p.p G.al St w' g (fun b=>b=g)):RelSt G St ⟨s.env,s.b,s.H++[(some g,.obj p)]⟩ a w':=by
 refine h.after (under_below hb) (fun _ h=>h) (fun b h=>.inl h) (fun b hs=>Nat.lt_of_lt_of_le (h.s3 b hs) hb.size) ⟨fun i b=>i=0∧b=g,fun i q r hi=>?_,fun i j b hi hj=>by omega,fun i b hi=>?_,fun i hi b hb=>by simp at hi;omega⟩
 ·match i,hi with
  | 0,hi =>
   simp at hi
   obtain ⟨rfl,rfl⟩:=hi
   have e:(fun b=>(0:Nat)=0∧b=g)=fun b=>b=g:=funext fun b=>by simp
   show p.p G.al St w' g (fun b=>(0:Nat)=0∧b=g)
   rw [e]
   exact hp
  | i+1,hi=>simp at hi
 ·obtain ⟨_,rfl⟩:=hi
  exact ⟨h2,fun hs=>by have:=h.s3 _ hs;omega,.inl h1⟩
theorem RelSt.turnObj {St:Nat→Prop} {a:Act} {w w':World} {i g:Nat} {p p':OP} (h:RelSt G St s a w) (hH:s.H[i]?=some (some g,.obj p)) (hF:∀ F,p.p G.al St w g F→(∀ b,F b↔b=g)) (hno:∀ cur t z,w.heap[g]?≠some (.cells cur t z))
  (ho:w'.os=w.os) (ht:w'.tape=w.tape) (hout:w'.output=w.output) (hsz:w'.heap.size=w.heap.size) (hold:∀ b,b≠g→w'.heap[b]?=w.heap[b]?) (hp':p'.p G.al St w' g (fun b=>b=g)):RelSt G St ⟨s.env,s.b,s.H.set i (some g,.obj p')⟩ a w':=by
 obtain ⟨fp,hp⟩:=h.hp
 have hlt:i<s.H.length:=(List.getElem?_eq_some_iff.1 hH).1
 have hrep:p.p G.al St w g (fp i):=hp.rep i (some g) _ hH
 have hfi:=hF _ hrep
 have hg:fp i g:=(hfi g).2 rfl
 obtain ⟨hg1,hg2,hg3⟩:=hp.own i g hg
 have he:Evo St w w':=⟨fun b cu ct cz hb hcu=>(hold b (fun e=>hg2 (e ▸ hb))).trans hcu,fun b cu t z hb=>⟨cu,z,(hold b (fun e=>hno cu t z (e ▸ hb))).trans hb,rfl⟩⟩
 refine ⟨h.df.keep (fun _ h=>h) (fun b hb=>hold b (fun e=>hg2 (e ▸ hb))),h.sz,fun d=>RepC.evo he (fun _ x=>x) _ _ (h.env d),⟨ho.trans h.un.os,ht.trans h.un.tape,hout.trans h.un.output,by rw [hsz];exact h.un.size,fun k hk hFk=>?_,fun b cu t z hb=>?_⟩,h.s1,h.s2,fun b hb=>by rw [hsz];exact h.s3 b hb,?_,?_,h.sg⟩
 ·refine (hold k (fun e=>?_)).trans (h.un.block k hk hFk)
  grind
 ·obtain ⟨cur',z',h1,h2⟩:=h.un.sh b cu t z hb
  grind
 ·refine ⟨fp,fun j q r hj=>?_,hp.dis,fun j b hb=>by rw [hsz];exact hp.own j b hb,fun j hj=>hp.out j (by simpa using hj)⟩
  by_cases e:j=i
  ·subst e
   simp [hlt] at hj
   obtain ⟨rfl,rfl⟩:=hj
   have e2:fp j=fun b=>b=g:=funext fun b=>propext (hfi b)
   show p'.p G.al St w' g (fp j)
   grind
  ·rw [List.getElem?_set_ne (Ne.symm e)] at hj
   exact Res.rep_evo he (fun _ x=>x) (fun b hFb=>hold b (fun e2=>e (hp.dis j i b hFb (e2 ▸ hg)))) (hp.rep j q r hj)
 ·exact SentL.keep h.sn (fun q hq=>hold q (fun e=>hg2 (e ▸ h.sg.1 q hq))) (fun q hq=>hold _ (fun e=>hg2 (e ▸ h.sg.2 q hq)))

theorem e_range {l:ByteArray} {d:Nat} (ho:o.op=.range t x) (hx:(⟨env,b0,H⟩:AS).eval x=.c (.string l)) (h1:P.underlying t=some .string) (hd:o.dst=some d) (hN:Nat.blt d G.N=true)
  (hK:∀ g,K ⟨(d,.op H.length (some g) 0)::env,b0,H++[(some g,.obj (iterOP l 0))]⟩):AEx P G o ⟨env,b0,H⟩ K:=fun St a w hr Q=>by
 have hrun:(execOp a.eval o).run P w=.ok (.value (.pointer (some ⟨w.heap.size,0,none⟩))) (w.iter l 0):=by
  simp only [execOp,ho,evC hr hx]
  exact vOk (run_range_string w t l h1)
 unfold Oper.wp
 rw [hrun]
 have hb:Below w.heap.size w (w.iter l 0):=below_alloc w _
 refine ⟨hb,St,fun _ h=>h,_,hK w.heap.size,?_⟩
 have h2:=hr.freshObj (g:=w.heap.size) (p:=iterOP l 0) hb (Nat.le_refl _) (by show _<(w.heap.push _).size;simp) ⟨fun b=>Iff.rfl,World.iter_heap w l 0⟩
 have:=h2.put (dst:=o.dst) (v:=.op H.length (some w.heap.size) 0) (x:=.pointer (some ⟨w.heap.size,0,none⟩)) (by simp_all) ⟨_,rfl,rfl⟩
 rw [hd] at this ⊢
 exact this
theorem run_next_any {l:ByteArray} {pos g:Nat} {w:World} (ty:TypeId) (hg:w.heap[g]?=some (.stringIter l pos)) (h:pos<l.size) :
  (Instr.next (.pointer (some ⟨g,0,none⟩)) true ty).run P w=.ok (.tuple #[.bool true,.int .i64 pos,.int .i32 (Utf8.decode l pos).1]) { w with heap:=w.heap.setIfInBounds g (.stringIter l (pos+(Utf8.decode l pos).2)) }:=by
 simp [Instr.next,getObj,setObj,Sem.run,hg,h,goInt]
theorem run_next_over {l:ByteArray} {pos g:Nat} {w:World} (ty:TypeId) (hg:w.heap[g]?=some (.stringIter l pos)) (h:¬ pos<l.size) :
  (Instr.next (.pointer (some ⟨g,0,none⟩)) true ty).run P w=.ok (.tuple #[.bool false]) w:=by
 simp [Instr.next,getObj,Sem.run,hg,h]
theorem m_next {l:ByteArray} {pos i g d:Nat} (ho:o.op=.next x true) (hx:(⟨env,b0,H⟩:AS).eval x=.op i (some g) 0) (hH:H[i]?=some (some g,.obj (iterOP l pos))) (hd:o.dst=some d) (hN:Nat.blt d G.N=true)
  (h1:pos<l.size→K ⟨(d,.tup 3 (fl [.c (.bool true),.c (.int .i64 (pos:Nat)),.c (.int .i32 ((Utf8.decode l pos).1:Nat))]))::env,b0,H.set i (some g,.obj (iterOP l (pos+(Utf8.decode l pos).2)))⟩)
  (h2:¬ pos<l.size→K ⟨(d,.tup 1 (fl [.c (.bool false)]))::env,b0,H⟩):AMd P G o ⟨env,b0,H⟩ K:=fun St a w hr Q=>by
 obtain ⟨b,hb,e0⟩:=evR hr hx
 cases hb
 obtain ⟨fp,hp⟩:=id hr.hp
 obtain ⟨hF,hg⟩:=hp.rep i _ _ hH
 have dlt:∀ d',o.dst=some d'→d'<G.N:=by intro d' hd';rw [hd] at hd';cases hd';exact Nat.le_of_ble_eq_true hN
 by_cases h:pos<l.size
 ·have hrun:(execOp a.eval o).run P w=.ok (.value (.tuple #[.bool true,.int .i64 pos,.int .i32 (Utf8.decode l pos).1])) { w with heap:=w.heap.setIfInBounds g (.stringIter l (pos+(Utf8.decode l pos).2)) }:=by
   simp only [execOp,ho,e0]
   exact vOk (run_next_any _ hg h)
  unfold Oper.wp
  rw [hrun]
  refine ⟨fun b hb=>?_,St,fun _ h=>h,_,h1 h,?_⟩
  ·have hne:b≠g:=fun e=>(hp.own i g ((hF g).2 rfl)).2.1 (e ▸ hb)
   grind
  have hlt:g<w.heap.size:=(Array.getElem?_eq_some_iff.1 hg).1
  have h3:=hr.turnObj (p:=iterOP l pos) (p':=iterOP l (pos+(Utf8.decode l pos).2)) (w':={ w with heap:=w.heap.setIfInBounds g (.stringIter l (pos+(Utf8.decode l pos).2)) }) hH (fun F h=>h.1) (fun cur t z he=>by rw [hg] at he;cases he) rfl rfl rfl (by simp) (fun b hb=>by grind) ⟨fun b=>Iff.rfl,by simp [hlt]⟩
  have:=h3.put (dst:=o.dst) (v:=.tup 3 (fl [.c (.bool true),.c (.int .i64 (pos:Nat)),.c (.int .i32 ((Utf8.decode l pos).1:Nat))])) (x:=.tuple #[.bool true,.int .i64 pos,.int .i32 (Utf8.decode l pos).1]) dlt ⟨_,rfl,rfl,fun j hj=>match j,hj with|0,_=>rfl|1,_=>rfl|2,_=>rfl⟩
  rw [hd] at this ⊢
  exact this
 ·have hrun:(execOp a.eval o).run P w=.ok (.value (.tuple #[.bool false])) w:=by
   simp only [execOp,ho,e0]
   exact vOk (run_next_over _ hg h)
  unfold Oper.wp
  rw [hrun]
  refine ⟨KeepS.refl _ _,St,fun _ h=>h,_,h2 h,?_⟩
  have:=hr.put (dst:=o.dst) (v:=.tup 1 (fl [.c (.bool false)])) (x:=.tuple #[.bool false]) dlt ⟨_,rfl,rfl,fun j hj=>match j,hj with|0,_=>rfl⟩
  rw [hd] at this ⊢
  exact this
end
end
section
def strC (l:List UInt8):CV:=.c (.string ⟨l.toArray⟩)
theorem ba_inj {a b:List UInt8}:((⟨a.toArray⟩:ByteArray)=⟨b.toArray⟩)↔a=b:=by
 simp_all
theorem ba_toList (a:List UInt8):(⟨a.toArray⟩:ByteArray).toList=a:=by simp_all
theorem ba_ext (l:List UInt8) (i j:Nat):(⟨l.toArray⟩:ByteArray).extract i j=⟨((l.take j).drop i).toArray⟩:=by
 apply ByteArray.ext
 simp [List.drop_take]
section
variable {P:Program} {G:Gh} {ops:Array Oper} {o:Oper} {s:AS} {r:List Oper} {K:AS→Prop} {t u:TypeId} {x y:Operand} {env:List (Nat×CV)} {b0:Nat→CV} {H:List (Option Nat×Res)} {k:IntKind} {a b:List UInt8}
theorem rd_eqL (ho:o.op=.binOp .eql t x y u) (hx:s.eval x=strC a) (hy:s.eval y=strC b):ARd P G o s (.c (.bool (decide (a=b)))):=by
 have:=rd_eqS (P:=P) (G:=G) ho hx hy
 rwa [show decide ((⟨a.toArray⟩:ByteArray)=⟨b.toArray⟩)=decide (a=b) from decide_eq_decide.2 ba_inj] at this
theorem rd_neL (ho:o.op=.binOp .neq t x y u) (hx:s.eval x=strC a) (hy:s.eval y=strC b):ARd P G o s (.c (.bool (decide (a≠b)))):=by
 have:=rd_neS (P:=P) (G:=G) ho hx hy
 rwa [show decide ((⟨a.toArray⟩:ByteArray)≠⟨b.toArray⟩)=decide (a≠b) from decide_eq_decide.2 (not_congr ba_inj)] at this
theorem rd_ltL (ho:o.op=.binOp .lss t x y u) (hx:s.eval x=strC a) (hy:s.eval y=strC b):ARd P G o s (.c (.bool (Op.bytesLess a b))):=by
 have:=rd_ltS (P:=P) (G:=G) ho hx hy
 rwa [ba_toList,ba_toList] at this
theorem rd_gtL (ho:o.op=.binOp .gtr t x y u) (hx:s.eval x=strC a) (hy:s.eval y=strC b):ARd P G o s (.c (.bool (!(Op.bytesLess a b || a == b)))):=by
 have:=rd_gtS (P:=P) (G:=G) ho hx hy
 rwa [ba_toList,ba_toList] at this
theorem rd_indexL {i:Nat} {z:Int} (ho:o.op=.index t x y) (hx:s.eval x=strC a) (hy:s.eval y=.c (.int k z)) (h1:P.underlying t=some .string) (hz:z=(i:Int)) (hi:i<a.length):ARd P G o s (byF a i) :=
 rd_indexS (l:=⟨a.toArray⟩) ho hx hy h1 hz hi
theorem rd_lenL (ho:o.op=.call ⟨.builtin .len,#[x],#[t]⟩) (hx:s.eval x=strC a) (h1:P.underlying t=some .string):ARd P G o s (.c (.int .i64 (a.length:Nat))):=rd_lenS ho hx h1
theorem rd_sliceL {l v:Nat} {lo hi:Option Operand} (ho:o.op=.slice t x lo hi none) (hx:s.eval x=strC a) (h1:P.underlying t=some .string)
  (hl:Bd s 0 lo l) (hu:Bd s a.length hi v) (hlv:l≤v) (hvn:v≤a.length):ARd P G o s (strC ((a.take v).drop l)):=by
 have:=rd_sliceS (P:=P) (G:=G) (b:=⟨a.toArray⟩) ho hx h1 hl hu hlv hvn
 rwa [ba_ext] at this
theorem rd_sliceLT {v:Nat} {hi:Operand} {z:Int} (ho:o.op=.slice t x none (some hi) none) (hx:s.eval x=strC a) (h1:P.underlying t=some .string) (hl:s.eval hi=.c (.int .i64 z)) (hz:z=(v:Int)) (hvn:v≤a.length):ARd P G o s (strC (a.take v)):=by
 have:=rd_sliceL (P:=P) (G:=G) ho hx h1 (bd_none _ _) (bd_some hl hz) (Nat.zero_le _) hvn
 rwa [List.drop_zero] at this
theorem rd_convBL {e:TypeId} (ho:o.op=.convert t u x) (hx:s.eval x=bsC a) (h1:P.underlying t=some (.slice e)) (h2:P.underlying e=some (.int .u8)) (h3:P.underlying u=some .string):ARd P G o s (strC a):=rd_convBS ho hx h1 h2 h3
theorem e_convLB {e:TypeId} {d:Nat} (ho:o.op=.convert t u x) (hx:(⟨env,b0,H⟩:AS).eval x=strC a) (h1:P.underlying t=some .string) (h2:P.underlying u=some (.slice e)) (h3:P.underlying e=some (.int .u8)) (hl:a.length≤9223372036854775807) (hd:o.dst=some d) (hN:Nat.blt d G.N=true)
  (hK:K ⟨(d,bsC a)::env,b0,H⟩):AEx P G o ⟨env,b0,H⟩ K:=by
 refine e_convSB ho hx h1 h2 h3 hl hd hN ?_
 simpa using hK
end
theorem CEnt.errN {m n:Nat} (h:n=m):CEnt (.err m) (.err n):=by subst h;exact cZ
theorem CEnt.strL {a b:List UInt8} (h:a=b):CEnt (strC a) (strC b):=by subst h;exact cZ
end
section
section
variable {P:Program} {G:Gh} {ops:Array Oper} {o:Oper} {s:AS} {r:List Oper} {K:AS→Prop} {t u:TypeId} {x y:Operand} {env:List (Nat×CV)} {b0:Nat→CV} {H:List (Option Nat×Res)}
theorem exec_clear {ats:Array TypeId} (ho:o.op=.call ⟨.builtin .clear,#[x],ats⟩) {a:Act} {v:Value} {w w':World} (h:(Builtin.clear_ ats o.type #[a.eval x]).run P w=.ok v w'):(execOp a.eval o).run P w=.ok (.value v) w':=by
 simp [execOp,ho,resolve,invoke,builtin,h]
end
end
section
def recOP (r:Loop):OP where
 p al St w g F:=(∀ b,F b↔b=g)∧w.heap[g]?=some (.loop r)
 st:=fun he hs hF ⟨h1,h2⟩=>⟨h1,(hF _ ((h1 _).2 rfl)).trans h2⟩
structure RdC where
 N:Nat
 env:List (Nat×CV)
 b:Nat→CV
 ps:Array Tmp
 assign:Code
 body:Code
def mkRec (fn:FuncId) (tmps:Array Value) (L:RdC) (D:Nat) (sp:LoopState×Option Code):Loop:={ state:=sp.1,pending:=sp.2,fn,tmps,params:=L.ps,assign:=L.assign,body:=L.body,defers:=D }
def rndOP {π:Type} (L:RdC) (sp:π→LoopState×Option Code) (HB:π→List (Option Nat×Res)) (φ:π→Prop):OP where
 p al St w g F:=∃ (x:π) (fn:FuncId) (tmps:Array Value) (D:Nat),φ x∧tmps.size=L.N∧(∀ d,RepC al St w (look L.env L.b d) (tmps.getD d undef))∧∃ fp,Foot al St w F (HB x++[(some g,.obj (recOP (mkRec fn tmps L D (sp x))))]) fp
 st:=fun he hs hF ⟨x,fn,tmps,D,h1,h2,h3,fp,h⟩=>⟨x,fn,tmps,D,h1,h2,fun d=>RepC.evo he hs _ _ (h3 d),fp,fun i g r hi=>Res.rep_evo he hs (fun b hb=>hF b ((h.all b).2 ⟨i,hb⟩)) (h.rep i g r hi),h.dis,h.out,h.all⟩

def ACY (gs:List Nat) (P:Program) (l:Nat) (H:List (Option Nat×Res)) (args:List CV) (Q:CV→List (Option Nat×Res)→Prop):Prop :=
 ∀ al w St F0 (vals:Array Value),Entry gs al St F0 H w→vals.size=args.length→(∀ i,RepC al St w (fl args i) (vals.getD i undef)) →
  YieldAt (frd none) 0 P l vals w fun e w'=>∃ v r H' St',e=.returned v∧Q r H'∧RepC al St' w' r v∧Under F0 w w'∧(∀ b,St b→St' b)∧(∀ b,St' b→St b∨w.heap.size≤b∨F0 b)∧(∀ b,St' b→b<w'.heap.size)∧HRel al St' w' w.heap.size F0 H'
def YQ (l:Nat) (J' Jx:OP):CV→List (Option Nat×Res)→Prop:=fun r H'=>(r=.c (.bool true)∧H'=[(some l,.obj J')])∨(r=.c (.bool false)∧H'=[(some l,.obj Jx)])

section
variable {P:Program} {G:Gh} {ops:Array Oper} {o:Oper} {s:AS} {K:AS→Prop} {env:List (Nat×CV)} {b0:Nat→CV} {H:List (Option Nat×Res)} {R:Exit→AS→Prop}

def AMdI (P:Program) (G:Gh) (o:Oper) (s:AS) (K:AS→Prop):Prop:=∀ a w,Rel G s a w→∀ Q,o.wpIn (frd G.rd) 0 P a w (fun a' w'=>∃ s',K s'∧Rel G s' a' w') Q
def penv:List Tmp→List CV→List (Nat×CV)→List (Nat×CV)
 | p::ps,c::cs,env=>penv ps cs ((p,c)::env)
 | _,_,env=>env
def roundR {π q:Type} (l:Nat) (R1:OP) (HB:π→List (Option Nat×Res)) (φ':π→Prop) (HX:q→List (Option Nat×Res)) (χ:Code→q→Prop):Exit→AS→Prop
 | .normal,s=>∃ x,φ' x∧(HB x).length+1≤s.H.length∧HEnt (s.H.take ((HB x).length+1)) (HB x++[(some l,.obj R1)])
 | .ret,s=>∃ x,χ .ret x∧(HX x).length+1≤s.H.length∧HEnt (s.H.take ((HX x).length+1)) (HX x++[(some l,.obj R1)])
 | .exit id,s=>∃ x,χ (.exit id) x∧(HX x).length+1≤s.H.length∧HEnt (s.H.take ((HX x).length+1)) (HX x++[(some l,.obj R1)])
 | _,_=>False
def assignR (P:Program) (G:Gh) (body:Code) (B:List (Option Nat×Res)) (l:Nat) (R0 R1:OP) (RE:Exit→AS→Prop):Exit→AS→Prop
 | .normal,s=>∃ env b,s=⟨env,b,B++[(some l,.obj R0)]⟩∧ACode P G body ⟨env,b,B++[(some l,.obj R1)]⟩ RE
 | _,_=>False

end
end
section
section
variable {P:Program} {G:Gh} {s:AS} {R:Exit→AS→Prop}

def IterC (gs:List Nat) (P:Program) (f:FuncId) (HI:List (Option Nat×Res)) (capt:List CV) (m:Nat) (E:Nat→List CV):Prop :=
 ∀ (l:Nat) (J:Nat→OP) (Jx:OP),(∀ k,k<m→ACY gs P l [(some l,.obj (J k))] (E k) (YQ l (J (k+1)) Jx)) →
  AC gs P f (HI++[(some l,.obj (J 0))]) (.c (.func (.yield l) #[] #[])::capt) fun _ H'=>H'=[(some l,.obj (J m))]∨H'=[(some l,.obj Jx)]

theorem rd_convB1 {o:Oper} {t u e:TypeId} {x:Operand} {i n N:Nat} {g:Option Nat} {L:List UInt8} (ho:o.op=.convert t u x) (hx:s.eval x=.os i g 0 n 1) (hH:Holds s i g N (byF L)) (hn:n=L.length) (hN:n≤N) (h1:P.underlying t=some (.slice e)) (h2:P.underlying e=some (.int .u8)) (h3:P.underlying u=some .string):ARdO P G o s (strC L) :=
 rd_convBO L ho hx hH hn (by omega) (fun a _=>by rw [Nat.zero_add];exact cZ) h1 h2 h3
end
end
section
def firstI {α:Type} (p:α→Bool):List α→Int
 | []=>-1
 | x::l=>if p x=true then 0 else if firstI p l<0 then -1 else firstI p l+1
theorem firstI_bd {α:Type} (p:α→Bool):∀ l:List α,-1≤firstI p l∧firstI p l<l.length
 | []=>by simp [firstI]
 | x::l=>by
  have:=firstI_bd p l
  grind [firstI]
theorem firstI_neg {α:Type} {p:α→Bool}:∀ {l:List α},firstI p l<0↔l.all (fun x=>!p x)=true
 | []=>by simp [firstI]
 | x::l=>by
  have ih:=@firstI_neg α p l
  have:=firstI_bd p l
  rw [firstI,List.all_cons]
  by_cases h:p x=true
  ·simp [h]
  ·rw [if_neg h]
   have hx:(!p x)=true:=by simpa using h
   rw [hx,Bool.true_and,← ih]
   split <;> omega
theorem firstI_none {α:Type} {p:α→Bool} {l:List α} (h:∀ i (hi:i<l.length),p l[i]=false):firstI p l=-1:=by
 have h1:firstI p l<0:=firstI_neg.2 (List.all_eq_true.2 fun x hx=>by
  grind [List.getElem_of_mem])
 have:=firstI_bd p l
 omega
theorem firstI_at {α:Type} {p:α→Bool}:∀ {l:List α} (i:Nat) (hi:i<l.length),p l[i]=true→(∀ j (hj:j<i),p (l[j]'(by omega))=false)→firstI p l=(i:Nat)
 | [],i,hi,_,_=>by simp at hi
 | x::l,0,hi,h,_=>by simp at h;simp [firstI,h]
 | x::l,i+1,hi,h,hb=>by
  have h0:p x=false:=by simpa using hb 0 (by omega)
  have ih:=@firstI_at α p l i (by simpa using hi) (by simpa using h) (fun j hj=>by simpa using hb (j+1) (by omega))
  rw [firstI,if_neg (by simp [h0]),ih,if_neg (by omega)]
  omega
theorem entL_refl:∀ l:List CV,EntL l l
 | []=>.nil
 | c::l=>.cons (CEnt.refl c) (entL_refl l)
theorem entL_fn {c d:CV} (h:CEnt c d) (l:List CV):EntL ([c]++l) (d::l):=.cons h (entL_refl l)
theorem CEnt.fn0 {g:FuncId} {f:Nat→CV}:CEnt (.c (.func (.func g) #[] #[])) (.fn g 0 f):=fun al St w v h=>⟨#[],h,rfl,fun i hi=>absurd hi (Nat.not_lt_zero i)⟩
theorem CEnt.rp {n:Nat} {f g:Nat→CV} (h:∀ j,j<n→CEnt (f j) (g j)):CEnt (.rp n f) (.rp n g):=fun al St w v ⟨b,o,h1,h2,h3⟩ =>
 ⟨b,o,h1,h2,fun j hj=>by
  obtain ⟨x,hx,hr⟩:=h3 j hj
  exact ⟨x,hx,h j hj al St w x hr⟩⟩
theorem CEnt.fn1 {k:FuncId} {f g:Nat→CV} (h:CEnt (f 0) (g 0)):CEnt (.fn k 1 f) (.fn k 1 g):=fun al St w v ⟨cs,h1,h2,h3⟩ =>
 ⟨cs,h1,h2,fun i hi=>by
  obtain rfl:i=0:=by omega
  exact h al St w _ (h3 0 hi)⟩
theorem BLe.look2 {D:List Nat} {b0 b2:Nat→CV} {env2:List (Nat×CV)} (h:BLe D b0 b2) (h3:kD D env2=true):BLe D b0 (look env2 b2):=BLe.nest (D2:=[]) (env2:=env2) (b2:=b2) h rfl h3
end
end Am
end Go.Proofs.YtnijncmifjnifaaGreatDoor
