/- What the law leans on, part 2: Am8, Am9, Ty, AmA, AmB, AmC, AmD, AmE, AmF, AmG, AmH, AmI, AmJ, P09n, Shelf, W07l, W09n, W09o -/
import Derived.Test.YteolfpolmioalaaGreatDoorM1NamesWrites
import Derived.Laws.StructEq
import Derived.Laws.RangeString
import Derived.Shelf.Abstract
import Derived.Shelf.Strings.Builder1
import Derived.Shelf.Strings.Builder2
import Derived.Shelf.Strings.OnBuilder
import Derived.Shelf.Small.Bits
import Derived.Shelf.Small.Strs
import Derived.Shelf.Strconv.Itoa0
import Derived.Shelf.Strings.Search1
import Derived.Shelf.Strings.Search2
import Derived.Shelf.Strings.Search3
import Derived.Shelf.Strings.Cut
import Derived.Shelf.LaysM
import Derived.Shelf.Strings.Shaped
import Derived.Shelf.Strings.Prefix
import Derived.Shelf.Unicode.Decode
import Derived.Shelf.Unicode.DecodeSlow
import Derived.Shelf.Unicode.DecodeAny
import Derived.Test.YteolfpolmioalaaGreatDoorProg

set_option maxRecDepth 100000
namespace Go.Proofs.YteolfpolmioalaaGreatDoor
set_option linter.unusedVariables false
namespace Am
section
open Go.RowKit
section
variable {P:Program} {G:Gh} {ops:Array Oper} {o:Oper} {s:AS} {r:List Oper} {K:AS→Prop} {R:Exit→AS→Prop} {Y:AS→Prop} {x y:Code}

theorem block_exit {i j:Nat} (he:Nat.beq j i=true) (h:R .normal s):blockR i R (.exit j) s:=by
 show match Nat.beq j i with|true=>R .normal s|false=>R (.exit j) s
 rw [he];exact h
theorem block_exit2 {i j:Nat} (he:Nat.beq j i=false) (h:R (.exit j) s):blockR i R (.exit j) s:=by
 show match Nat.beq j i with|true=>R .normal s|false=>R (.exit j) s
 rw [he];exact h
theorem code_condT {d:Operand} (hl:s.eval d=.c (.bool true)) (ht:ACode P G x s R):ACode P G (.cond d x y) s R:=code_cond hl (fun _=>ht) (fun h=>by cases h)
theorem code_condF {d:Operand} (hl:s.eval d=.c (.bool false)) (hf:ACode P G y s R):ACode P G (.cond d x y) s R:=code_cond hl (fun h=>by cases h) (fun _=>hf)

variable {env:List (Nat×CV)} {b0:Nat→CV} {H:List (Option Nat×Res)}
theorem q_rd {d:Nat} {v:CV} (hw:Wanted G ops o ⟨env,b0,H⟩ true) (hd:o.dst=some d) (hN:Nat.blt d G.N=true) (h:ARd P G o ⟨env,b0,H⟩ v) (hk:ASeq P G ops r ⟨(d,v)::env,b0,H⟩ K):ASeq P G ops (o::r) ⟨env,b0,H⟩ K :=
 seq_rd hw (by simp only [dstOk,hd];exact hN) h (by simp only [AS.put,hd];exact hk)
theorem q_rdO {d:Nat} {v:CV} (hw:Wanted G ops o ⟨env,b0,H⟩ true) (hd:o.dst=some d) (hN:Nat.blt d G.N=true) (h:ARdO P G o ⟨env,b0,H⟩ v) (hk:ASeq P G ops r ⟨(d,v)::env,b0,H⟩ K):ASeq P G ops (o::r) ⟨env,b0,H⟩ K :=
 seq_rdO hw (by simp only [dstOk,hd];exact hN) h (by simp only [AS.put,hd];exact hk)
theorem q_skip {d:Nat} (hw:Wanted G ops o ⟨env,b0,H⟩ false) (hd:o.dst=some d) (hN:Nat.blt d G.N=true) (hk:ASeq P G ops r ⟨(d,.c undef)::env,b0,H⟩ K):ASeq P G ops (o::r) ⟨env,b0,H⟩ K :=
 seq_skip hw (by simp only [dstOk,hd];exact hN) (by simp only [AS.put,hd];exact hk)
theorem y_rd {d:Nat} {v:CV} {tr:OrdO} (hw:Wanted G ops o ⟨env,b0,H⟩ true) (hd:o.dst=some d) (hN:Nat.blt d G.N=true) (h:ARd P G o ⟨env,b0,H⟩ v) (hk:AX P G ops tr ⟨(d,v)::env,b0,H⟩ K):AX P G ops (.rd o tr) ⟨env,b0,H⟩ K :=
 x_rd hw (by simp only [dstOk,hd];exact hN) h (by simp only [AS.put,hd];exact hk)
theorem y_rdO {d:Nat} {v:CV} {tr:OrdO} (hw:Wanted G ops o ⟨env,b0,H⟩ true) (hd:o.dst=some d) (hN:Nat.blt d G.N=true) (h:ARdO P G o ⟨env,b0,H⟩ v) (hk:AX P G ops tr ⟨(d,v)::env,b0,H⟩ K):AX P G ops (.rd o tr) ⟨env,b0,H⟩ K :=
 x_rdO hw (by simp only [dstOk,hd];exact hN) h (by simp only [AS.put,hd];exact hk)
theorem zz_rd {d:Nat} {v:CV} {tr:OrdO} (hw:Wanted G ops o ⟨env,b0,H⟩ true) (hd:o.dst=some d) (hN:Nat.blt d G.N=true) (h:ARd P G o ⟨env,b0,H⟩ v) (hk:AZ P G ops tr ⟨(d,v)::env,b0,H⟩ K):AZ P G ops (.rd o tr) ⟨env,b0,H⟩ K :=
 z_rd hw (by simp only [dstOk,hd];exact hN) h (by simp only [AS.put,hd];exact hk)
theorem zz_one1O {d:Nat} {v:CV} {tr:OrdO} (hw:Wanted G ops o ⟨env,b0,H⟩ true) (hd:o.dst=some d) (hN:Nat.blt d G.N=true) (h:ARdO P G o ⟨env,b0,H⟩ v) (hk:AZ P G ops tr ⟨(d,v)::env,b0,H⟩ K):AZ P G ops (.one o tr) ⟨env,b0,H⟩ K :=
 z_one1O hw (by simp only [dstOk,hd];exact hN) h (by simp only [AS.put,hd];exact hk)
theorem zz_rdO {d:Nat} {v:CV} {tr:OrdO} (hw:Wanted G ops o ⟨env,b0,H⟩ true) (hd:o.dst=some d) (hN:Nat.blt d G.N=true) (hb:ownB ops o=true) (h:ARdO P G o ⟨env,b0,H⟩ v) (hk:AZ P G ops tr ⟨(d,v)::env,b0,H⟩ K):AZ P G ops (.rd o tr) ⟨env,b0,H⟩ K :=
 z_rdO hw (by simp only [dstOk,hd];exact hN) hb h (by simp only [AS.put,hd];exact hk)
theorem zz_noone {d:Nat} {tr:OrdO} (hw:Wanted G ops o ⟨env,b0,H⟩ false) (hd:o.dst=some d) (hN:Nat.blt d G.N=true) (hk:AZ P G ops tr ⟨(d,.c undef)::env,b0,H⟩ K):AZ P G ops (.one o tr) ⟨env,b0,H⟩ K :=
 z_noone hw (by simp only [dstOk,hd];exact hN) (by simp only [AS.put,hd];exact hk)
theorem zz_skip {d:Nat} {tr:OrdO} (hw:Wanted G ops o ⟨env,b0,H⟩ false) (hd:o.dst=some d) (hN:Nat.blt d G.N=true) (hk:AZ P G ops tr ⟨(d,.c undef)::env,b0,H⟩ K):AZ P G ops (.rd o tr) ⟨env,b0,H⟩ K :=
 z_skip hw (by simp only [dstOk,hd];exact hN) (by simp only [AS.put,hd];exact hk)
theorem y_skip {d:Nat} {tr:OrdO} (hw:Wanted G ops o ⟨env,b0,H⟩ false) (hd:o.dst=some d) (hN:Nat.blt d G.N=true) (hk:AX P G ops tr ⟨(d,.c undef)::env,b0,H⟩ K):AX P G ops (.rd o tr) ⟨env,b0,H⟩ K :=
 x_skip hw (by simp only [dstOk,hd];exact hN) (by simp only [AS.put,hd];exact hk)
theorem y_noone {d:Nat} {tr:OrdO} (hw:Wanted G ops o ⟨env,b0,H⟩ false) (hd:o.dst=some d) (hN:Nat.blt d G.N=true) (hk:AX P G ops tr ⟨(d,.c undef)::env,b0,H⟩ K):AX P G ops (.one o tr) ⟨env,b0,H⟩ K :=
 x_noone hw (by simp only [dstOk,hd];exact hN) (by simp only [AS.put,hd];exact hk)

theorem wanted_undef {j d:Nat} {b:Bool} (h:o.guard=some (j,b)) (hd:(ops[j]?).bind (·.dst)=some d) (hN:Nat.blt d G.N=true) (hl:look s.env s.b d=.c undef):Wanted G ops o s false:=fun St a w hr=>by
 have hlt:d<a.tmps.size:=by rw [hr.sz];exact Nat.le_of_ble_eq_true hN
 have he:=hr.env d
 rw [hl] at he
 have he:a.tmps.getD d undef=undef:=he
 have hg:a.tmps[d]?=some undef:=by
  rw [Array.getElem?_eq_getElem hlt]
  congr 1
  simpa [hlt] using he
 simp only [Region.wanted,h,yielded,hd,Option.bind_some,hg]
 cases b <;> rfl
theorem put_lit {d:Nat} {t:Bool} (hN:Nat.blt d G.N=true) (hl:look s.env s.b d=.c (.bool t)) {b:Bool} (e:t=b):EntS G s ⟨(d,.c (.bool b))::s.env,s.b,s.H⟩ :=
 EntS.put hN fun St a w hr=>by
  have:=hr.env d
  rw [hl,e] at this
  exact this
theorem code_condS {d:Nat} {t:Bool} (hN:Nat.blt d G.N=true) (hl:look s.env s.b d=.c (.bool t)) (ht:t=true→ACode P G x ⟨(d,.c (.bool true))::s.env,s.b,s.H⟩ R) (hf:t=false→ACode P G y ⟨(d,.c (.bool false))::s.env,s.b,s.H⟩ R):ACode P G (.cond (.tmp d) x y) s R :=
 code_cond (t:=t) hl (fun e=>jE (put_lit hN hl e) (ht e)) (fun e=>jE (put_lit hN hl e) (hf e))
theorem seq_split {d:Nat} {t:Bool} (hN:Nat.blt d G.N=true) (hl:look s.env s.b d=.c (.bool t)) (ht:t=true→ASeq P G ops r ⟨(d,.c (.bool true))::s.env,s.b,s.H⟩ K) (hf:t=false→ASeq P G ops r ⟨(d,.c (.bool false))::s.env,s.b,s.H⟩ K):ASeq P G ops r s K:=by
 cases e:t with
 | true=>exact seq_ent (put_lit hN hl e) (ht e)
 | false=>exact seq_ent (put_lit hN hl e) (hf e)
theorem z_split {d:Nat} {t:Bool} {tr:OrdO} (hN:Nat.blt d G.N=true) (hl:look s.env s.b d=.c (.bool t)) (ht:t=true→AZ P G ops tr ⟨(d,.c (.bool true))::s.env,s.b,s.H⟩ K) (hf:t=false→AZ P G ops tr ⟨(d,.c (.bool false))::s.env,s.b,s.H⟩ K):AZ P G ops tr s K:=by
 cases e:t with
 | true=>exact z_ent (put_lit hN hl e) (ht e)
 | false=>exact z_ent (put_lit hN hl e) (hf e)
theorem x_split {d:Nat} {t:Bool} {tr:OrdO} (hN:Nat.blt d G.N=true) (hl:look s.env s.b d=.c (.bool t)) (ht:t=true→AX P G ops tr ⟨(d,.c (.bool true))::s.env,s.b,s.H⟩ K) (hf:t=false→AX P G ops tr ⟨(d,.c (.bool false))::s.env,s.b,s.H⟩ K):AX P G ops tr s K:=by
 cases e:t with
 | true=>exact x_ent (put_lit hN hl e) (ht e)
 | false=>exact x_ent (put_lit hN hl e) (hf e)
def InR:IntKind→Int→Prop
 | .i64,z=>-9223372036854775808≤z∧z≤9223372036854775807
 | .u64,z=>0≤z∧z≤18446744073709551615
 | .i32,z=>-2147483648≤z∧z≤2147483647
 | .u32,z=>0≤z∧z≤4294967295
 | .i16,z=>-32768≤z∧z≤32767
 | .u16,z=>0≤z∧z≤65535
 | .i8,z=>-128≤z∧z≤127
 | .u8,z=>0≤z∧z≤255
theorem wrap_id {k:IntKind} {z:Int} (h:InR k z):k.wrap z=z:=by
 cases k <;> simp only [InR] at h <;> simp [IntKind.wrap,IntKind.bits,IntKind.signed] <;> omega
theorem natI {z:Int} (h:0≤z):z=(z.toNat:Int):=by omega

theorem CEnt.int {k:IntKind} {a b:Int} (h:a=b):CEnt (.c (.int k a)) (.c (.int k b)):=h ▸ cZ
theorem CEnt.bool {a b:Bool} (h:a=b):CEnt (.c (.bool a)) (.c (.bool b)):=h ▸ cZ
theorem CEnt.str {a b:ByteArray} (h:a=b):CEnt (.c (.string a)) (.c (.string b)):=h ▸ cZ
theorem CEnt.err {a b:Nat} (h:a=b):CEnt (.err a) (.err b):=h ▸ cZ
theorem CEnt.bs {a b:List UInt8} (h:a=b):CEnt (bsC a) (bsC b):=h ▸ cZ
theorem CEnt.nilB:CEnt (.c (.slice none 0 0)) (bsC []):=CEnt.nilS _ _
theorem CEnt.tup2 {a b c d:CV} (h1:CEnt a c) (h2:CEnt b d):CEnt (.tup 2 (fl [a,b])) (.tup 2 (fl [c,d])) :=
 CEnt.tup rfl fun i hi=>match i,hi with|0,_=>h1|1,_=>h2
theorem CEnt.tup3 {a b c d e f:CV} (h1:CEnt a d) (h2:CEnt b e) (h3:CEnt c f):CEnt (.tup 3 (fl [a,b,c])) (.tup 3 (fl [d,e,f])) :=
 CEnt.tup rfl fun i hi=>match i,hi with|0,_=>h1|1,_=>h2|2,_=>h3
theorem CEnt.tup4 {a b c d a' b' c' d':CV} (h1:CEnt a a') (h2:CEnt b b') (h3:CEnt c c') (h4:CEnt d d'):CEnt (.tup 4 (fl [a,b,c,d])) (.tup 4 (fl [a',b',c',d'])) :=
 CEnt.tup rfl fun i hi=>match i,hi with|0,_=>h1|1,_=>h2|2,_=>h3|3,_=>h4
def SE (G:Gh) (s:AS) (x:Operand) (c:CV):Prop:=∀ St a w,RelSt G St s a w→RepC G.al St w c (a.eval x)
theorem se {x:Operand} {c0 c:CV} (hx:s.eval x=c0) (h:CEnt c0 c):SE G s x c:=fun St a w hr=>h _ _ _ _ (evR hr hx)
theorem se_frz {x:Operand} {i off n m N:Nat} {g:Option Nat} {F:Nat→CV} (hx:s.eval x=.os i g off n m) (hH:s.H[i]?=some (g,.frz N F)) (hN:off+n * m≤N) (f:Nat→Nat→CV) (hf:∀ a b,a<n→b<m→CEnt (F (off+(a * m+b))) (f a b)):SE G s x (.rs m n f):=fun St a w hr=>by
 have he:=evR hr hx
 cases g with
 | none =>
  obtain ⟨h1,h2⟩:=he
  subst h1
  exact ⟨none,0,h2,Nat.le_refl _,by decide,fun _=>rfl,fun _ h=>by cases h⟩
 | some g =>
  obtain ⟨cap,h1,h2,h3,_⟩:=he
  obtain ⟨fp,hp⟩:=hr.hp
  obtain ⟨_,hg,cur,t,z,hh,hle,hc⟩:=hp.rep i (some g) _ hH
  refine ⟨_,cap,h1,h2,h3,(fun h=>by cases h),fun ad ha _=>?_⟩
  cases ha
  refine ⟨rfl,hg,fun p q hp' hq=>?_⟩
  have hb:p * m+q<n * m:=by
   have:p * m+m≤n * m:=by rw [← Nat.succ_mul];exact Nat.mul_le_mul_right _ hp'
   omega
  have hlt:off+(p * m+q)<cur.size:=by omega
  refine ⟨cur.getD (off+(p * m+q)) undef,?_,hf p q hp' hq _ _ _ _ (hc _ (by omega))⟩
  show w.cell? ⟨g,off+(p * m+q),none⟩=_
  rw [cell_of_row w g _ cur t z hh];simp [hlt]
theorem se_frzB {x:Operand} {i off n N:Nat} {g:Option Nat} {F:Nat→CV} (l:List UInt8) (hx:s.eval x=.os i g off n 1) (hH:s.H[i]?=some (g,.frz N F)) (hn:n=l.length) (hN:off+n≤N) (hf:∀ a,a<n→CEnt (F (off+a)) (byF l a)):SE G s x (bsC l):=by
 subst hn
 refine se_frz hx hH (by omega) _ fun a b ha hb=>?_
 rw [show off+(a * 1+b)=off+a by omega]
 exact hf a ha
inductive SEL (G:Gh) (s:AS):List Operand→List CV→Prop where
 | nil:SEL G s [] []
 | cons {x:Operand} {c:CV} {l:List Operand} {m:List CV} (h:SE G s x c) (t:SEL G s l m):SEL G s (x::l) (c::m)
theorem sel_len {l:List Operand} {m:List CV} (h:SEL G s l m):l.length=m.length:=by
 induction h with
 | nil=>rfl
 | cons _ _ ih=>simp [ih]
theorem sel_get {l:List Operand} {m:List CV} (h:SEL G s l m) {St:Nat→Prop} {a:Act} {w:World} (hr:RelSt G St s a w):∀ i (hi:i<l.length),RepC G.al St w (fl m i) (a.eval l[i]):=by
 induction h with
 | nil=>intro i hi;simp at hi
 | cons h1 _ ih =>
  intro i hi
  cases i with
  | zero=>exact h1 St a w hr
  | succ i=>exact ih i (by simpa using hi)

def ACp (gs:List Nat) (P:Program) (f:FuncId) (args:List CV) (m:CV):Prop:=AC gs P f [] args fun r H=>r=m∧H=[]

theorem args_se {xs:Array Operand} {args:List CV} (he:SEL G s xs.toList args) {St:Nat→Prop} {a:Act} {w:World} (h:RelSt G St s a w):(xs.map a.eval).size=args.length∧∀ i,RepC G.al St w (fl args i) ((xs.map a.eval).getD i undef):=by
 have hl:=sel_len he
 simp at hl
 refine ⟨by simp [hl],fun i=>?_⟩
 by_cases hi:i<xs.size
 ·have:=sel_get he h i (by simpa using hi)
  simpa [hi] using this
 ·rw [fl_none args i (by omega)]
  trivial
theorem ex_callS {f:FuncId} {xs:Array Operand} {ats:Array TypeId} {args:List CV} {Q:CV→List (Option Nat×Res)→Prop} (ho:o.op=.call ⟨.value (.func f),xs,ats⟩) (hc:calleeB P f=true) (hA:AC G.gs P f [] args Q) (he:SEL G s xs.toList args) (hd:dstOk G o=true)
  (hK:∀ r H',Q r H'→K (s.with o.dst r (s.H++H'))):AEx P G o s K:=fun St a w hr Q'=>by
 unfold Oper.wp
 rw [exec_call ho hc]
 obtain ⟨h1,h2⟩:=args_se he hr
 refine (hA G.al w St _ _ (entry0 hr) h1 h2).mono ?_
 rintro e w' ⟨v,r,H',St',rfl,hq,hv,hu,h3,h4,h5,h6⟩
 refine ⟨hu.below,St',h3,_,hK r H' hq,?_⟩
 have:=(hr.after hu h3 h4 h5 h6).put (dst:=o.dst) (dst_of hd) hv
 cases ho:o.dst with
 | none=>rw [ho] at this;exact this
 | some d=>rw [ho] at this;exact this
theorem ex_callP {f:FuncId} {xs:Array Operand} {ats:Array TypeId} {args:List CV} {m:CV} (ho:o.op=.call ⟨.value (.func f),xs,ats⟩) (hc:calleeB P f=true) (hA:ACp G.gs P f args m) (he:SEL G s xs.toList args) (hd:dstOk G o=true)
  (hK:K (s.with o.dst m (s.H++[]))):AEx P G o s K:=ex_callS ho hc hA he hd (by rintro _ _ ⟨rfl,rfl⟩;exact hK)

def ARV (P:Program) (G:Gh) (s:AS) (rv:ResultVar) (c:CV):Prop:=∀ St a w,RelSt G St s a w→∃ v,(match rv with|.tmp t=>pure (a.tmps.getD t undef)|.cell d t=>do loadVar t (← asAddr (a.tmps.getD d undef)):Sem Value).run P w=.ok v w∧RepC G.al St w c v
theorem arv_tmp {t:Nat} {c:CV} (h:look s.env s.b t=c):ARV P G s (.tmp t) c:=fun St a w hr=>⟨_,rfl,h ▸ hr.env t⟩
theorem arv_cell {d:Nat} {t:TypeId} {i off n:Nat} {g:Option Nat} {f:Nat→CV} {c:CV} {ds:TypeDesc} (h:look s.env s.b d=.op i g off) (hH:Holds s i g n f) (h1:P.underlying t=some ds) (ha:aggB P t=false) (hn:off<n) (hc:f off=c):ARV P G s (.cell d t) c:=fun St a w hr=>by
 have he:=hr.env d
 rw [h] at he
 obtain ⟨b,rfl,he⟩:=he
 obtain ⟨hg,cur,ty,z,hh,hle,hcell⟩:=holdCells hr hH
 have hlt:off<cur.size:=by omega
 have hcc:w.cell? ⟨b,off,none⟩=some (cur.getD off undef):=by
  rw [cell_of_row w b off cur ty z hh];simp [hlt]
 refine ⟨_,?_,hc ▸ hcell off hn⟩
 simp only [he,asAddr,Sem.run_bind,Sem.run_pure,Result.andThen_ok]
 exact run_loadVar1 h1 ha hcc
theorem arv_cellA {d:Nat} {t:TypeId} {i off n m:Nat} {g:Option Nat} {f:Nat→CV} {ds:TypeDesc} (h:look s.env s.b d=.op i g off) (hH:Holds s i g n f) (h1:P.underlying t=some ds) (ha:aggB P t=true) (h5:(P.info? t).map (·.size)=some m) (hn:off+m≤n):ARV P G s (.cell d t) (.agg m fun j=>f (off+j)):=fun St a w hr=>by
 obtain ⟨info,h5i,h6⟩:=Option.map_eq_some_iff.1 h5
 have he:=hr.env d
 rw [h] at he
 obtain ⟨b,rfl,he⟩:=he
 obtain ⟨hg,cur,ty,z,hh,hle,hcell⟩:=holdCells hr hH
 subst h6
 have hrun:=run_loadVarA h1 ha h5i (w:=w) (b:=b) (q:=off) (g:=fun j=>cur.getD (off+j) undef) (fun j hj=>by
  have hlt:off+j<cur.size:=by omega
  rw [cell_of_row w b (off+j) cur ty z hh];simp [hlt])
 refine ⟨.agg ((List.range info.size).map fun j=>cur.getD (off+j) undef).toArray,?_,_,rfl,by simp,fun j hj=>?_⟩
 ·simp only [he,asAddr,Sem.run_bind,Sem.run_pure,Result.andThen_ok]
  exact hrun
 ·have:=hcell (off+j) (by omega)
  simp [hj] at this ⊢
  exact this
theorem run_mapM1 {α β:Type} (f:α→Sem β) {a1:α} {b1:β} {w:World} (h1:(f a1).run P w=.ok b1 w):((#[a1]:Array α).mapM f).run P w=.ok #[b1] w:=by
 simp [h1]
theorem run_mapM2 {α β:Type} (f:α→Sem β) {a1 a2:α} {b1 b2:β} {w:World} (h1:(f a1).run P w=.ok b1 w) (h2:(f a2).run P w=.ok b2 w):((#[a1,a2]:Array α).mapM f).run P w=.ok #[b1,b2] w:=by
 simp [h1,h2]
theorem run_mapM3 {α β:Type} (f:α→Sem β) {a1 a2 a3:α} {b1 b2 b3:β} {w:World} (h1:(f a1).run P w=.ok b1 w) (h2:(f a2).run P w=.ok b2 w) (h3:(f a3).run P w=.ok b3 w):((#[a1,a2,a3]:Array α).mapM f).run P w=.ok #[b1,b2,b3] w:=by
 simp [h1,h2,h3]
theorem run_mapM4 {α β:Type} (f:α→Sem β) {a1 a2 a3 a4:α} {b1 b2 b3 b4:β} {w:World} (h1:(f a1).run P w=.ok b1 w) (h2:(f a2).run P w=.ok b2 w) (h3:(f a3).run P w=.ok b3 w) (h4:(f a4).run P w=.ok b4 w):((#[a1,a2,a3,a4]:Array α).mapM f).run P w=.ok #[b1,b2,b3,b4] w:=by
 simp [h1,h2,h3,h4]
theorem run_res {fn:Func} {tmps:Array Value} {vs:Array Value} {w:World} (h:(fn.results.mapM fun|.tmp t=>pure (tmps.getD t undef)|.cell a t=>do loadVar t (← asAddr (tmps.getD a undef)):Sem (Array Value)).run P w=.ok vs w):(results fn tmps).run P w=.ok (if h:vs.size=1 then vs[0] else .tuple vs) w:=by
 unfold results
 rw [Sem.run_bind]
 have h':=h
 refine (congrArg (fun r=>Result.andThen r _) h').trans ?_
 rfl
theorem res_1 {fn:Func} {r1:ResultVar} {v:CV} (h:fn.results=#[r1]) (h1:ARV P G s r1 v):ARes P G fn s v:=fun St a w hr=>by
 obtain ⟨x1,e1,q1⟩:=h1 St a w hr
 exact ⟨x1,run_res (vs:=#[x1]) (by rw [h];exact run_mapM1 _ e1),q1⟩
theorem res_2 {fn:Func} {r1 r2:ResultVar} {v1 v2:CV} (h:fn.results=#[r1,r2]) (h1:ARV P G s r1 v1) (h2:ARV P G s r2 v2):ARes P G fn s (.tup 2 (fl [v1,v2])):=fun St a w hr=>by
 obtain ⟨x1,e1,q1⟩:=h1 St a w hr
 obtain ⟨x2,e2,q2⟩:=h2 St a w hr
 exact ⟨.tuple #[x1,x2],run_res (vs:=#[x1,x2]) (by rw [h];exact run_mapM2 _ e1 e2),_,rfl,rfl,fun i hi=>match i,hi with|0,_=>q1|1,_=>q2⟩
theorem res_3 {fn:Func} {r1 r2 r3:ResultVar} {v1 v2 v3:CV} (h:fn.results=#[r1,r2,r3]) (h1:ARV P G s r1 v1) (h2:ARV P G s r2 v2) (h3:ARV P G s r3 v3):ARes P G fn s (.tup 3 (fl [v1,v2,v3])):=fun St a w hr=>by
 obtain ⟨x1,e1,q1⟩:=h1 St a w hr
 obtain ⟨x2,e2,q2⟩:=h2 St a w hr
 obtain ⟨x3,e3,q3⟩:=h3 St a w hr
 exact ⟨.tuple #[x1,x2,x3],run_res (vs:=#[x1,x2,x3]) (by rw [h];exact run_mapM3 _ e1 e2 e3),_,rfl,rfl,fun i hi=>match i,hi with|0,_=>q1|1,_=>q2|2,_=>q3⟩
theorem res_4 {fn:Func} {r1 r2 r3 r4:ResultVar} {v1 v2 v3 v4:CV} (h:fn.results=#[r1,r2,r3,r4]) (h1:ARV P G s r1 v1) (h2:ARV P G s r2 v2) (h3:ARV P G s r3 v3) (h4:ARV P G s r4 v4):ARes P G fn s (.tup 4 (fl [v1,v2,v3,v4])):=fun St a w hr=>by
 obtain ⟨x1,e1,q1⟩:=h1 St a w hr
 obtain ⟨x2,e2,q2⟩:=h2 St a w hr
 obtain ⟨x3,e3,q3⟩:=h3 St a w hr
 obtain ⟨x4,e4,q4⟩:=h4 St a w hr
 exact ⟨.tuple #[x1,x2,x3,x4],run_res (vs:=#[x1,x2,x3,x4]) (by rw [h];exact run_mapM4 _ e1 e2 e3 e4),_,rfl,rfl,fun i hi=>match i,hi with|0,_=>q1|1,_=>q2|2,_=>q3|3,_=>q4⟩
theorem res_0 {fn:Func} (h:fn.results=#[]):ARes P G fn s (.c (.tuple #[])):=fun St a w hr=>⟨.tuple #[],by simp [results,h],rfl⟩

theorem end_val {fn:Func} {e:Exit} {v m:CV} (he:e=.ret∨e=.normal) (hres:ARes P G fn s v) (hv:CEnt v m):bodyR P G fn (fun r H=>r=m∧H=[]) e s:=end_pure he m (hres.ent hv) ⟨rfl,rfl⟩
variable {t u:TypeId} {p q:Operand} {k:IntKind}
theorem rd_convBN {e:TypeId} (ho:o.op=.convert t u p) (hx:s.eval p=.c (.slice none 0 0)) (h1:P.underlying t=some (.slice e)) (h2:P.underlying e=some (.int .u8)) (h3:P.underlying u=some .string):ARd P G o s (.c (.string ⟨#[]⟩)):=fun St a w h=>by
 refine ⟨_,fun W _=>?_,rfl⟩
 simp only [execOp,ho,evC h hx]
 exact vOk (run_string_bs (Bs.nil W) _ _ _ h1 h2 h3)
theorem bs_of_os {St:Nat→Prop} {a:Act} {w:World} (h:RelSt G St s a w) {x:Operand} {i off n N:Nat} {g:Option Nat} {F:Nat→CV} {l:List UInt8} (hx:s.eval x=.os i g off n 1) (hH:Holds s i g N F) (hn:n=l.length) (hN:off+n≤N) (hf:∀ a,a<n→CEnt (F (off+a)) (byF l a)):Bs w (a.eval x) l:=by
 subst hn
 have he:=evR h hx
 cases g with
 | none =>
  obtain ⟨h1,h2⟩:=he
  rw [h2,List.eq_nil_of_length_eq_zero h1]
  exact Bs.nil w
 | some g =>
  obtain ⟨cap,h1,h2,h3,_⟩:=he
  rw [h1]
  obtain ⟨hg,cur,ty,z,hh,hle,hcell⟩:=holdCells h hH
  refine Bs.of_cells h2 h3 fun j hj=>?_
  have hlt:off+j<cur.size:=by omega
  rw [cell_of_row w g _ cur ty z hh]
  have:=hf j hj _ _ _ _ (hcell (off+j) (by omega))
  have e:cur.getD (off+j) undef=.int .u8 ((l.getD j 0).toNat:Nat):=this
  rw [← e]
  simp [hlt]
theorem rd_convBO {e:TypeId} {i off n N:Nat} {g:Option Nat} {F:Nat→CV} (l:List UInt8) (ho:o.op=.convert t u p) (hx:s.eval p=.os i g off n 1) (hH:Holds s i g N F) (hn:n=l.length) (hN:off+n≤N) (hf:∀ a,a<n→CEnt (F (off+a)) (byF l a))
  (h1:P.underlying t=some (.slice e)) (h2:P.underlying e=some (.int .u8)) (h3:P.underlying u=some .string):ARdO P G o s (.c (.string ⟨l.toArray⟩)):=fun St a w h=>by
 refine ⟨_,fun W hW=>?_,rfl⟩
 have hb:=(bs_of_os h hx hH hn hN hf).below hW
 obtain ⟨ao,cap,e0,_⟩:=id hb
 simp only [execOp,ho,e0]
 rw [e0] at hb
 exact vOk (run_string_bs hb _ _ _ h1 h2 h3)

theorem rd_sliceB {e:TypeId} {a b:Operand} {z1 z2:Int} {k1 k2:IntKind} {l v:Nat} {bl:List UInt8} (ho:o.op=.slice t p (some a) (some b) none) (hx:s.eval p=bsC bl) (h1:P.underlying t=some (.slice e)) (h5:(P.info? e).map (·.size)=some 1)
  (ha:s.eval a=.c (.int k1 z1)) (hz1:z1=(l:Int)) (hb:s.eval b=.c (.int k2 z2)) (hz2:z2=(v:Int)) (hlv:l≤v) (hvn:v≤bl.length):ARd P G o s (bsC ((bl.take v).drop l)) :=
 (rd_sliceR ho hx h1 h5 (bd_some ha hz1) (bd_some hb hz2) hlv hvn).ent (bs_piece bl l v hlv hvn)
theorem rd_sliceB_from {e:TypeId} {a:Operand} {z1:Int} {k1:IntKind} {l:Nat} {bl:List UInt8} (ho:o.op=.slice t p (some a) none none) (hx:s.eval p=bsC bl) (h1:P.underlying t=some (.slice e)) (h5:(P.info? e).map (·.size)=some 1)
  (ha:s.eval a=.c (.int k1 z1)) (hz1:z1=(l:Int)) (hlv:l≤bl.length):ARd P G o s (bsC (bl.drop l)) :=
 (rd_sliceR ho hx h1 h5 (bd_some ha hz1) (bd_none _ _) hlv (Nat.le_refl _)).ent (bs_from bl l hlv)
theorem rd_sliceB_to {e:TypeId} {b:Operand} {z2:Int} {k2:IntKind} {v:Nat} {bl:List UInt8} (ho:o.op=.slice t p none (some b) none) (hx:s.eval p=bsC bl) (h1:P.underlying t=some (.slice e)) (h5:(P.info? e).map (·.size)=some 1)
  (hb:s.eval b=.c (.int k2 z2)) (hz2:z2=(v:Int)) (hvn:v≤bl.length):ARd P G o s (bsC (bl.take v)) :=
 (rd_sliceR ho hx h1 h5 (bd_none _ _) (bd_some hb hz2) (Nat.zero_le _) hvn).ent (bs_to bl v hvn)

theorem rd_eqE0 (ho:o.op=.binOp .eql 28 p (.const .nilIface) u) (hx:s.eval p=.c .nilIface):ARd Tryz.prog G o s (.c (.bool (decide ((0:Nat)=0)))):=fun St a w h=>by
 have hs:a.eval p=ev G.al 0:=(evC h hx).trans (ev_zero _).symm
 refine ⟨.bool (decide ((0:Nat)=0)),fun W _=>?_,rfl⟩
 simp only [execOp,ho,hs]
 refine vOk ?_
 show (do eqGuard .eql _ _ _ (ev G.al 0) .nilIface;binOp .eql _ (ev G.al 0) .nilIface:Sem Value).run _ W=_
 rw [eqGuard_ev_nil]
 exact run_eql_ev_nil G.al 0 W
theorem rd_neE0 (ho:o.op=.binOp .neq 28 p (.const .nilIface) u) (hx:s.eval p=.c .nilIface):ARd Tryz.prog G o s (.c (.bool (decide ((0:Nat)≠0)))):=fun St a w h=>by
 have hs:a.eval p=ev G.al 0:=(evC h hx).trans (ev_zero _).symm
 refine ⟨.bool (decide ((0:Nat)≠0)),fun W _=>?_,rfl⟩
 simp only [execOp,ho,hs]
 refine vOk ?_
 show (do eqGuard .neq _ _ _ (ev G.al 0) .nilIface;binOp .neq _ (ev G.al 0) .nilIface:Sem Value).run _ W=_
 rw [eqGuard_ev_nil]
 have:=run_neq_ev_nil G.al 0 W
 rw [← decide_not] at this
 exact this
def rowF {α:Type} (k:Nat) (e:α→Nat→CV) (d:α) (l:List α) (j:Nat):CV:=e (l.getD (j / k) d) (j % k)
theorem rowF_at {α:Type} {k:Nat} {e:α→Nat→CV} {d:α} {l:List α} {i j:Nat} (hj:j<k):rowF k e d l (i * k+j)=e (l.getD i d) j:=by
 unfold rowF
 rw [Nat.mul_comm i k,Nat.mul_add_div (by omega),Nat.div_eq_of_lt hj,Nat.add_zero,Nat.mul_add_mod,Nat.mod_eq_of_lt hj]
theorem byF_append {l l2:List UInt8} {h:Nat→CV} (hh:∀ j,j<l2.length→CEnt (h j) (byF l2 j)):∀ j,j<(l.length+l2.length) * 1→CEnt (appF (l.length * 1) (byF l) h j) (byF (l++l2) j):=fun j hj=>by
 unfold appF
 by_cases h1:j<l.length * 1
 ·rw [if_pos h1]
  refine CEnt.of_eq ?_
  simp only [byF,List.getD_eq_getElem?_getD,List.getElem?_append_left (show j<l.length by omega)]
 ·rw [if_neg h1]
  refine CEnt.trans (hh _ (by omega)) (CEnt.of_eq ?_)
  simp only [byF,List.getD_eq_getElem?_getD,List.getElem?_append_right (show l.length≤j by omega),Nat.mul_one]

theorem md_appendB {e:TypeId} {z:Value} {i N:Nat} {g:Option Nat} {f h:Nat→CV} {l l2:List UInt8} {m:Nat} (ho:o.op=.call ⟨.builtin .append,#[p,q],#[t,u]⟩) (hx:s.eval p=.os i g 0 l.length 1) (hH:s.H[i]?=some (g,.blk N f)) (hN:l.length≤N) (hf:∀ j,j<l.length→CEnt (f j) (byF l j))
  (hsrc:ASrc P G s q 1 m h) (hm:m=l2.length) (hh:∀ j,j<l2.length→CEnt (h j) (byF l2 j)) (h1:P.underlying t=some (.slice e)) (hu:notInt P u=true) (h5:(P.info? e).map (·.size)=some 1) (hz:(P.info? e).map (·.zero)=some (some z)) (hby:(P.info? e).map (·.bytes)=some 1) (hzk:z.cells.size=1)
  (h63:l.length+l2.length≤140737488355328) (hleaf:∀ j,j<m * 1→leafC (h j)=true) (hd:dstOk G o=true)
  (hK:∀ g',K (s.with o.dst (.os i g' 0 (l++l2).length 1) (s.H.set i (g',.blk (l++l2).length (byF (l++l2)))))):AMd P G o s K:=by
 subst hm
 refine md_append ho hx hH (by omega) hsrc h1 hu h5 hz hby (by omega) (by omega) hzk (byF (l++l2)) (fun j hj=>?_) hleaf hd (fun g'=>?_)
 ·refine CEnt.trans ?_ (byF_append hh j hj)
  unfold appF
  split
  ·exact hf j (by omega)
  ·exact cZ
 ·have:=hK g'
  rw [List.length_append] at this
  rw [Nat.mul_one]
  exact this

variable {env:List (Nat×CV)} {b0:Nat→CV} {H:List (Option Nat×Res)}
theorem with_some {d:Nat} {v:CV} {H':List (Option Nat×Res)} (hd:o.dst=some d):(⟨env,b0,H⟩:AS).with o.dst v H'=⟨(d,v)::env,b0,H'⟩:=by simp only [AS.with,AS.put,hd]
theorem with_none {v:CV} {H':List (Option Nat×Res)} (hd:o.dst=none):(⟨env,b0,H⟩:AS).with o.dst v H'=⟨env,b0,H'⟩:=by simp only [AS.with,AS.put,hd]
theorem dst_s {d:Nat} (hd:o.dst=some d) (hN:Nat.blt d G.N=true):dstOk G o=true:=by simp only [dstOk,hd];exact hN
theorem dst_n (hd:o.dst=none):dstOk G o=true:=by simp only [dstOk,hd]

theorem e_alloc {z:Value} {n d:Nat} (ho:o.op=.alloc t) (hz:(P.info? t).map (·.zero)=some (some z)) (hn:z.cells.size=n) (hd:o.dst=some d) (hN:Nat.blt d G.N=true)
  (hK:∀ g,K ⟨(d,.op H.length g 0)::env,b0,H++[(g,.blk n fun j=>.c (z.cells.getD j undef))]⟩):AEx P G o ⟨env,b0,H⟩ K :=
 ex_alloc ho hz hn (dst_s hd hN) fun g=>by rw [with_some hd];exact hK g
theorem e_box {n d:Nat} {c:CV} {l:List CV} (ho:o.op=.box t p) (hx:(⟨env,b0,H⟩:AS).eval p=c) (hl:cellsC c=some l) (hn:l.length=n) (hd:o.dst=some d) (hN:Nat.blt d G.N=true)
  (hK:∀ g,K ⟨(d,.op H.length g 0)::env,b0,H++[(g,.blk n (fl l))]⟩):AEx P G o ⟨env,b0,H⟩ K :=
 ex_box ho hx hl hn (dst_s hd hN) fun g=>by rw [with_some hd];exact hK g
theorem e_buildSlice {e:TypeId} {z:Value} {len m:Nat} {parts:Array (Nat×Operand)} {l:List CV} {n d:Nat} (ho:o.op=.buildSlice t len parts) (h1:P.underlying t=some (.slice e)) (h5:(P.info? e).map (·.size)=some m) (hz:(P.info? e).map (·.zero)=some (some z))
  (hm:Nat.ble (len * m) 16777216=true) (hlen:Nat.ble len 16777216=true) (hf:fillC (fun i=>some (i * m,m)) ((List.range (len * m)).map fun i=>.c (z.cells[i % z.cells.size]!)) (parts.toList.map fun p=>(p.1,(⟨env,b0,H⟩:AS).eval p.2))=some l) (hn:l.length=n) (hle:n=len * m) (hd:o.dst=some d) (hN:Nat.blt d G.N=true)
  (hK:∀ g,K ⟨(d,.os H.length g 0 len m)::env,b0,H++[(g,.blk n (fl l))]⟩):AEx P G o ⟨env,b0,H⟩ K :=
 ex_buildSlice ho h1 h5 hz hm hlen hf hn hle (dst_s hd hN) fun g=>by rw [with_some hd];exact hK g
theorem e_convSB {e:TypeId} {l:ByteArray} {d:Nat} (ho:o.op=.convert t u p) (hx:(⟨env,b0,H⟩:AS).eval p=.c (.string l)) (h1:P.underlying t=some .string) (h2:P.underlying u=some (.slice e)) (h3:P.underlying e=some (.int .u8)) (hl:l.size≤9223372036854775807) (hd:o.dst=some d) (hN:Nat.blt d G.N=true)
  (hK:K ⟨(d,bsC l.data.toList)::env,b0,H⟩):AEx P G o ⟨env,b0,H⟩ K :=
 ex_convSB ho hx h1 h2 h3 hl (dst_s hd hN) (by rw [with_some hd];exact hK)
theorem e_callP {f:FuncId} {xs:Array Operand} {ats:Array TypeId} {args:List CV} {m:CV} {d:Nat} (ho:o.op=.call ⟨.value (.func f),xs,ats⟩) (hc:calleeB P f=true) (hA:ACp G.gs P f args m) (he:SEL G ⟨env,b0,H⟩ xs.toList args) (hd:o.dst=some d) (hN:Nat.blt d G.N=true)
  (hK:K ⟨(d,m)::env,b0,H⟩):AEx P G o ⟨env,b0,H⟩ K:=ex_callP ho hc hA he (dst_s hd hN) (by rw [with_some hd,List.append_nil];exact hK)
theorem e_callS {f:FuncId} {xs:Array Operand} {ats:Array TypeId} {args:List CV} {Q:CV→List (Option Nat×Res)→Prop} {d:Nat} (ho:o.op=.call ⟨.value (.func f),xs,ats⟩) (hc:calleeB P f=true) (hA:AC G.gs P f [] args Q) (he:SEL G ⟨env,b0,H⟩ xs.toList args) (hd:o.dst=some d) (hN:Nat.blt d G.N=true)
  (hK:∀ r H',Q r H'→K ⟨(d,r)::env,b0,H++H'⟩):AEx P G o ⟨env,b0,H⟩ K:=ex_callS ho hc hA he (dst_s hd hN) (fun r H' hq=>by rw [with_some hd];exact hK r H' hq)
theorem e_callV {f:FuncId} {v:Operand} {n d:Nat} {fv:Nat→CV} {xs:Array Operand} {ats:Array TypeId} {args:List CV} {Q:CV→List (Option Nat×Res)→Prop} (ho:o.op=.call ⟨.value v,xs,ats⟩) (hv:(⟨env,b0,H⟩:AS).eval v=.fn f n fv) (hc:calleeB P f=true) (hA:AC G.gs P f [] args Q) (he:EntL (xs.toList.map (⟨env,b0,H⟩:AS).eval++(List.range n).map fv) args) (hd:o.dst=some d) (hN:Nat.blt d G.N=true)
  (hK:∀ r H',Q r H'→K ⟨(d,r)::env,b0,H++H'⟩):AEx P G o ⟨env,b0,H⟩ K:=ex_callv ho hv hc he hA (dst_s hd hN) (fun r H' hq=>by rw [with_some hd];exact hK r H' hq)
theorem m_store {i off n m:Nat} {g:Option Nat} {f:Nat→CV} {c:CV} {l:List CV} (ho:o.op=.store t p q) (hx:(⟨env,b0,H⟩:AS).eval p=.op i g off) (hH:H[i]?=some (g,.blk n f)) (hy:(⟨env,b0,H⟩:AS).eval q=c) (hl:cellsC c=some l) (h5:(P.info? t).map (·.size)=some m) (hm:l.length=m) (hleaf:l.all leafC=true) (hn:off+m≤n)
  (F:Nat→CV) (hF:∀ j,j<n→CEnt (updF f off l j) (F j)) (hd:o.dst=none) (hK:K ⟨env,b0,H.set i (g,.blk n F)⟩):AMd P G o ⟨env,b0,H⟩ K :=
 md_store ho hx hH hy hl h5 hm hleaf hn F hF (dst_n hd) (by rw [with_none hd];exact hK)
theorem m_append {e:TypeId} {z:Value} {i n m k N by_ n' N' d:Nat} {g:Option Nat} {f h:Nat→CV} (ho:o.op=.call ⟨.builtin .append,#[p,q],#[t,u]⟩) (hx:(⟨env,b0,H⟩:AS).eval p=.os i g 0 n k) (hH:H[i]?=some (g,.blk N f)) (hN:n * k≤N)
  (hsrc:ASrc P G ⟨env,b0,H⟩ q k m h) (h1:P.underlying t=some (.slice e)) (hu:notInt P u=true) (h5:(P.info? e).map (·.size)=some k) (hz:(P.info? e).map (·.zero)=some (some z)) (hby:(P.info? e).map (·.bytes)=some by_)
  (h63:n+m≤9223372036854775807) (h48:(n+m) * by_≤140737488355328) (hzk:z.cells.size=k)
  (F:Nat→CV) (hF:∀ j,j<(n+m) * k→CEnt (appF (n * k) f h j) (F j)) (hleaf:∀ j,j<m * k→leafC (h j)=true) (hd:o.dst=some d) (hdN:Nat.blt d G.N=true) (hn':n+m=n') (hN':(n+m) * k=N')
  (hK:∀ g',K ⟨(d,.os i g' 0 n' k)::env,b0,H.set i (g',.blk N' F)⟩):AMd P G o ⟨env,b0,H⟩ K :=
 md_append ho hx hH hN hsrc h1 hu h5 hz hby h63 h48 hzk F hF hleaf (dst_s hd hdN) fun g'=>by subst hn';subst hN';rw [with_some hd];exact hK g'
theorem m_appendB {e:TypeId} {z:Value} {i N d:Nat} {g:Option Nat} {f h:Nat→CV} {l l2:List UInt8} {m:Nat} (ho:o.op=.call ⟨.builtin .append,#[p,q],#[t,u]⟩) (hx:(⟨env,b0,H⟩:AS).eval p=.os i g 0 l.length 1) (hH:H[i]?=some (g,.blk N f)) (hN:l.length≤N) (hf:∀ j,j<l.length→CEnt (f j) (byF l j))
  (hsrc:ASrc P G ⟨env,b0,H⟩ q 1 m h) (hm:m=l2.length) (hh:∀ j,j<l2.length→CEnt (h j) (byF l2 j)) (h1:P.underlying t=some (.slice e)) (hu:notInt P u=true) (h5:(P.info? e).map (·.size)=some 1) (hz:(P.info? e).map (·.zero)=some (some z)) (hby:(P.info? e).map (·.bytes)=some 1) (hzk:z.cells.size=1)
  (h63:l.length+l2.length≤140737488355328) (hleaf:∀ j,j<m * 1→leafC (h j)=true) (hd:o.dst=some d) (hdN:Nat.blt d G.N=true)
  (hK:∀ g',K ⟨(d,.os i g' 0 (l++l2).length 1)::env,b0,H.set i (g',.blk (l++l2).length (byF (l++l2)))⟩):AMd P G o ⟨env,b0,H⟩ K :=
 md_appendB ho hx hH hN hf hsrc hm hh h1 hu h5 hz hby hzk h63 hleaf (dst_s hd hdN) fun g'=>by rw [with_some hd];exact hK g'
theorem l_loop {c:Code} {α:Type} (D:List Nat) (M:α→List (Nat×CV)) (Hp:α→List (Option Nat×Res)) (φ:α→Prop) (μ:α→Nat) (p0:α) (h0:φ p0) (hM:∀ p,((M p).all fun x=>D.any (Nat.beq x.1))=true) (he:EntE env b0 (M p0)) (hH:HEnt H (Hp p0))
  (hr:∀ p,φ p→ACode P G c ⟨M p,lay D env b0,Hp p⟩ (thenR (fun s'=>∃ p',φ p'∧μ p'<μ p∧BLe D (lay D env b0) s'.b∧(s'.env.all fun x=>D.any (Nat.beq x.1))=true∧EntE s'.env s'.b (M p')∧(Hp p').length≤s'.H.length∧HEnt (s'.H.take (Hp p').length) (Hp p')) R)):ACode P G (.loop c) ⟨env,b0,H⟩ R :=
 code_loopD (s:=⟨env,b0,H⟩) D M Hp φ μ p0 h0 hM he hH hr
end
end
section
open Go.RowKit
section
variable {P:Program} {G:Gh} {ops:Array Oper} {o:Oper} {s:AS} {K:AS→Prop} {t u:TypeId} {p q:Operand} {k:IntKind}
variable {env:List (Nat×CV)} {b0:Nat→CV} {H:List (Option Nat×Res)}

theorem RelSt.afterH {St St':Nat→Prop} {a:Act} {w w':World} (h:RelSt G St s a w) {fp:Nat→Nat→Prop} (hp:HFoot G.al St w G.w0.heap.size G.F0 s.H fp) {i:Nat} (hi:i<s.H.length) {x:Option Nat×Res} (hu:Under (fp i) w w') (h1:∀ b,St b→St' b) (h2:∀ b,St' b→St b∨w.heap.size≤b∨fp i b) (h3:∀ b,St' b→b<w'.heap.size) (hp':HRel G.al St' w' w.heap.size (fp i) [x]) :
  RelSt G St' ⟨s.env,s.b,s.H.set i x⟩ a w':=by
 have hst:∀ b,St b→w'.heap[b]?=w.heap[b]?:=fun b hb=>hu.block b (h.s3 b hb) fun hf=>(hp.own i b hf).2.1 hb
 have he:Evo St w w':=⟨fun b cur t z hb hc=>(hst b hb).trans hc,hu.sh⟩
 obtain ⟨fp',hp'⟩:=hp'
 refine ⟨h.df.keep h1 hst,h.sz,fun d=>RepC.evo he h1 _ _ (h.env d),⟨hu.os.trans h.un.os,hu.tape.trans h.un.tape,hu.output.trans h.un.output,Nat.le_trans h.un.size hu.size,fun k hk hF=>?_,fun b cur ty z hb=>?_⟩,fun b hs=>h1 b (h.s1 b hs),fun b hs=>?_,h3,?_,?_,fun g hg=>h1 g (h.sg.1 g hg),fun y hy=>h1 _ (h.sg.2 y hy)⟩
 ·refine (hu.block k (Nat.lt_of_lt_of_le hk h.un.size) fun hf=>?_).trans (h.un.block k hk hF)
  rcases (hp.own i k hf).2.2 with h4|h4
  ·omega
  ·exact hF h4
 ·obtain ⟨cur',z',h4,h5⟩:=h.un.sh b cur ty z hb
  obtain ⟨cur2,z2,h6,h7⟩:=hu.sh b cur' ty z' h4
  exact ⟨cur2,z2,h6,h7.trans h5⟩
 ·rcases h2 b hs with hs|hs|hs
  ·exact h.s2 b hs
  ·exact .inr (.inl (Nat.le_trans h.un.size hs))
  ·exact .inr (hp.own i b hs).2.2
 ·have old:∀ j b,j≠i→fp j b→w'.heap[b]?=w.heap[b]?:=fun j b hj hb=>hu.block b (hp.own j b hb).1 fun hf=>hj (hp.dis j i b hb hf)
  refine ⟨fun j b=>if j=i then fp' 0 b else fp j b,fun j q r hj=>?_,fun j l b hj hl=>?_,fun j b hj=>?_,fun j hj b hb=>?_⟩
  ·by_cases e:j=i
   ·subst e
    simp [hi] at hj
    have e2:(fun b=>if j=j then fp' 0 b else fp j b)=fp' 0:=funext fun b=>by simp
    show r.rep G.al St' w' (fun b=>if j=j then fp' 0 b else fp j b) q
    rw [e2]
    exact hp'.rep 0 q r (by simp [hj])
   ·rw [List.getElem?_set_ne (Ne.symm e)] at hj
    have e2:(fun b=>if j=i then fp' 0 b else fp j b)=fp j:=funext fun b=>by simp [e]
    show r.rep G.al St' w' (fun b=>if j=i then fp' 0 b else fp j b) q
    rw [e2]
    exact Res.rep_evo he h1 (fun b hF=>old j b e hF) (hp.rep j q r hj)
  ·have apart:∀ l b,l≠i→fp l b→fp' 0 b→False:=fun l b hl h4 h5=>by
    rcases (hp'.own 0 b h5).2.2 with h6|h6
    ·have:=(hp.own l b h4).1;omega
    ·exact hl (hp.dis l i b h4 h6)
   by_cases e1:j=i <;> by_cases e2:l=i
   ·omega
   ·simp only [e1,e2,if_true,if_false] at hj hl;exact (apart l b e2 hl hj).elim
   ·simp only [e1,e2,if_true,if_false] at hj hl;exact (apart j b e1 hj hl).elim
   ·simp only [e1,e2,if_false] at hj hl;exact hp.dis j l b hj hl
  ·by_cases e:j=i
   ·simp only [e,if_true] at hj
    obtain ⟨h4,h5,h6⟩:=hp'.own 0 b hj
    refine ⟨h4,h5,?_⟩
    rcases h6 with h6|h6
    ·exact .inl (Nat.le_trans h.un.size h6)
    ·exact (hp.own i b h6).2.2
   ·simp only [e,if_false] at hj
    obtain ⟨h4,h5,h6⟩:=hp.own j b hj
    refine ⟨Nat.lt_of_lt_of_le h4 hu.size,fun hs=>?_,h6⟩
    rcases h2 b hs with hs|hs|hs
    ·exact h5 hs
    ·omega
    ·exact e (hp.dis j i b hj hs)
  ·have hj':s.H.length≤j:=by simpa using hj
   have e:j≠i:=by omega
   simp only [e,if_false] at hb
   exact hp.out j hj' b hb
 ·exact SentL.keep h.sn (fun q hq=>hst q (h.sg.1 q hq)) (fun y hy=>hst _ (h.sg.2 y hy))

theorem m_callH {f:FuncId} {xs:Array Operand} {ats:Array TypeId} {args:List CV} {Q:CV→List (Option Nat×Res)→Prop} {i d:Nat} {x0:Option Nat×Res} (ho:o.op=.call ⟨.value (.func f),xs,ats⟩) (hc:calleeB P f=true) (hi:H[i]?=some x0) (hA:AC G.gs P f [x0] args Q) (he:SEL G ⟨env,b0,H⟩ xs.toList args) (hd:o.dst=some d) (hN:Nat.blt d G.N=true)
  (hK:∀ r H',Q r H'→∃ x r',H'=[x]∧CEnt r r'∧K ⟨(d,r')::env,b0,H.set i x⟩):AMd P G o ⟨env,b0,H⟩ K:=fun St a w hr Q'=>by
 unfold Oper.wp
 rw [exec_call ho hc]
 obtain ⟨h1,h2⟩:=args_se he hr
 obtain ⟨fp,hp⟩:=hr.hp
 have hlt:i<H.length:=(List.getElem?_eq_some_iff.1 hi).1
 obtain ⟨g0,r0⟩:=x0
 have hent:Entry G.gs G.al St (fp i) [(g0,r0)] w:=by
  refine ⟨hr.s3,hr.sn,hr.sg,⟨fun j b=>j=0∧fp i b,fun j g r hj=>?_,fun j l b hj hl=>by omega,fun j b hj=>⟨(hp.own i b hj.2).1,(hp.own i b hj.2).2.1,.inr hj.2⟩,fun j hj b hb=>by simp at hj;omega⟩,fun b hb=>(hp.own i b hb).2.1⟩
  match j,hj with
  | 0,hj =>
   simp at hj
   obtain ⟨rfl,rfl⟩:=hj
   have e:(fun b=>(0:Nat)=0∧fp i b)=fp i:=funext fun b=>by simp
   show r0.rep G.al St w (fun b=>(0:Nat)=0∧fp i b) g0
   rw [e]
   exact hp.rep i g0 r0 hi
  | j+1,hj=>simp at hj
 refine (hA G.al w St _ _ hent h1 h2).mono ?_
 rintro e w' ⟨v,r,H',St',rfl,hq,hv,hu,h3,h4,h5,h6⟩
 obtain ⟨x,r',rfl,hce,hk⟩:=hK r H' hq
 refine ⟨fun b hb=>hu.block b (hr.s3 b hb) fun hf=>(hp.own i b hf).2.1 hb,St',h3,_,hk,?_⟩
 have h7:=(hr.afterH hp hlt hu h3 h4 h5 h6).put (dst:=o.dst) (v:=r') (x:=v) (by intro d' hd';rw [hd] at hd';cases hd';exact Nat.le_of_ble_eq_true hN) (hce _ _ _ _ hv)
 rw [hd] at h7 ⊢
 exact h7
theorem CEnt.osI {i j:Nat} {g:Option Nat} {off n m k:Nat} (h:n=m):CEnt (.os i g off n k) (.os j g off m k):=by
 subst h
 cases g <;> exact fun _ _ _ _ h=>h
theorem CEnt.opI {i j off:Nat} {g:Option Nat}:CEnt (.op i g off) (.op j g off):=fun _ _ _ _ h=>h
def OwnQ (n k N:Nat) (F:Nat→CV):CV→List (Option Nat×Res)→Prop:=fun r H'=>∃ g,r=.os 0 g 0 n k∧H'=[(g,.blk N F)]
theorem m_callO {f:FuncId} {xs:Array Operand} {ats:Array TypeId} {args:List CV} {n m N:Nat} {F:Nat→CV} {i d:Nat} {x0:Option Nat×Res} (ho:o.op=.call ⟨.value (.func f),xs,ats⟩) (hc:calleeB P f=true) (hi:H[i]?=some x0) (hA:AC G.gs P f [x0] args (OwnQ n m N F)) (he:SEL G ⟨env,b0,H⟩ xs.toList args) (hd:o.dst=some d) (hN:Nat.blt d G.N=true)
  (hK:∀ g,K ⟨(d,.os i g 0 n m)::env,b0,H.set i (g,.blk N F)⟩):AMd P G o ⟨env,b0,H⟩ K :=
 m_callH ho hc hi hA he hd hN fun r H' ⟨g,h1,h2⟩=>⟨_,_,h2,by rw [h1];exact CEnt.osI (j:=i) rfl,hK g⟩
theorem ent_head {d:Nat} {v v':CV} (h:CEnt v v'):EntS G ⟨(d,v)::env,b0,H⟩ ⟨(d,v')::env,b0,H⟩:=fun St a w hr=>by
 refine ⟨St,fun _ h=>h,hr.df,hr.sz,fun e=>?_,hr.un,hr.s1,hr.s2,hr.s3,hr.hp,hr.sn,hr.sg⟩
 have:=hr.env e
 by_cases hde:d=e
 ·subst hde
  rw [look_same] at this ⊢
  exact h _ _ _ _ this
 ·rw [look_other _ _ _ hde] at this ⊢;exact this
theorem AEx.ent {K':AS→Prop} (h:AEx P G o s K') (hK:∀ s',K' s'→∃ s'',EntS G s' s''∧K s''):AEx P G o s K:=fun St a w hr Q=>Oper.wp_mono (fun a' w' ⟨hb,St',hs,s',h1,h2⟩=>by
 obtain ⟨s'',h3,h4⟩:=hK s' h1
 obtain ⟨S2,h5,h6⟩:=h3 St' a' w' h2
 exact ⟨hb,S2,fun b hb=>h5 b (hs b hb),s'',h4,h6⟩) (h St a w hr Q)
theorem e_callO {f:FuncId} {xs:Array Operand} {ats:Array TypeId} {args:List CV} {n m N:Nat} {F:Nat→CV} {d:Nat} (ho:o.op=.call ⟨.value (.func f),xs,ats⟩) (hc:calleeB P f=true) (hA:AC G.gs P f [] args (OwnQ n m N F)) (he:SEL G ⟨env,b0,H⟩ xs.toList args) (hd:o.dst=some d) (hN:Nat.blt d G.N=true)
  (hK:∀ g,K ⟨(d,.os H.length g 0 n m)::env,b0,H++[(g,.blk N F)]⟩):AEx P G o ⟨env,b0,H⟩ K :=
 AEx.ent (K':=fun s'=>∃ g,s'=⟨(d,.os 0 g 0 n m)::env,b0,H++[(g,.blk N F)]⟩) (e_callS ho hc hA he hd hN fun r H' ⟨g,h1,h2⟩=>⟨g,by rw [h1,h2]⟩) fun s' ⟨g,hs⟩=>⟨_,by rw [hs];exact ent_head (CEnt.osI (j:=H.length) rfl),hK g⟩
theorem end_O {fn:Func} {e:Exit} {n m k N M:Nat} {g:Option Nat} {F F':Nat→CV} (i:Nat) (he:e=.ret∨e=.normal) (hres:ARes P G fn s (.os i g 0 n k)) (hH:s.H[i]?=some (g,.blk N F)) (hn:n=m) (hN:M≤N) (hg:g=none→M=N) (hF:∀ j,j<M→CEnt (F j) (F' j)):bodyR P G fn (OwnQ m k M F') e s:=by
 have h:∃ r H',ARes P G fn s r∧OwnQ m k M F' r H'∧∀ St a w,RelSt G St s a w→HRel G.al St w G.w0.heap.size G.F0 H':=by
  refine ⟨.os 0 g 0 m k,[(g,.blk M F')],hres.ent (CEnt.osI hn),⟨g,rfl,rfl⟩,fun St a w hr=>?_⟩
  obtain ⟨fp,hp⟩:=hr.hp
  have hr0:=hp.rep i g _ hH
  refine ⟨fun j b=>j=0∧fp i b,fun j q r hj=>?_,fun j l b hj hl=>by omega,fun j b hj=>hp.own i b hj.2,fun j hj b hb=>by simp at hj;omega⟩
  match j,hj with
  | 0,hj =>
   simp at hj
   obtain ⟨rfl,rfl⟩:=hj
   have e:(fun b=>(0:Nat)=0∧fp i b)=fp i:=funext fun b=>by simp
   show Res.rep G.al St w (fun b=>(0:Nat)=0∧fp i b) g (.blk M F')
   rw [e]
   cases g with
   | none=>exact ⟨by rw [hg rfl];exact hr0.1,hr0.2⟩
   | some g =>
    obtain ⟨h1,cur,ty,h2,h3,h4⟩:=hr0
    exact ⟨h1,cur,ty,h2,by omega,fun l hl=>hF l hl _ _ _ _ (h4 l (by omega))⟩
  | j+1,hj=>simp at hj
 rcases he with rfl|rfl <;> exact h

theorem own_nil (d k:Nat) (f:Nat→CV) (hl:look s.env s.b d=.c (.slice none 0 0)):EntS G s ⟨(d,.os s.H.length none 0 0 k)::s.env,s.b,s.H++[(none,.blk 0 f)]⟩:=fun St a w hr=>by
 refine ⟨St,fun _ h=>h,hr.df,hr.sz,fun e=>?_,hr.un,hr.s1,hr.s2,hr.s3,?_,hr.sn,hr.sg⟩
 ·by_cases hde:d=e
  ·subst hde
   rw [look_same]
   have:=hr.env d
   rw [hl] at this
   exact ⟨rfl,this⟩
  ·rw [look_other _ _ _ hde];exact hr.env e
 ·obtain ⟨fp,hp⟩:=hr.hp
  refine ⟨fp,fun j g r hj=>?_,hp.dis,hp.own,fun j hj=>hp.out j (by simp at hj;omega)⟩
  rcases Nat.lt_or_ge j s.H.length with h1|h1
  ·rw [List.getElem?_append_left h1] at hj;exact hp.rep j g r hj
  ·rw [List.getElem?_append_right h1] at hj
   have h2:=(List.getElem?_eq_some_iff.1 hj).1
   simp at h2
   have h3:j=s.H.length:=by omega
   subst h3
   simp at hj
   obtain ⟨rfl,rfl⟩:=hj
   exact ⟨rfl,fun b hb=>hp.out _ (Nat.le_refl _) b hb⟩
theorem se_nilO {x:Operand} {i k off:Nat} (hx:s.eval x=.c (.slice none 0 0)):SE G s x (.os i none off 0 k):=fun St a w hr=>⟨rfl,evC hr hx⟩
theorem ent_none (f:Nat→CV):EntS G s ⟨s.env,s.b,s.H++[(none,.blk 0 f)]⟩:=fun St a w hr=>by
 refine ⟨St,fun _ h=>h,hr.df,hr.sz,hr.env,hr.un,hr.s1,hr.s2,hr.s3,?_,hr.sn,hr.sg⟩
 obtain ⟨fp,hp⟩:=hr.hp
 refine ⟨fp,fun j g r hj=>?_,hp.dis,hp.own,fun j hj=>hp.out j (by simp at hj;omega)⟩
 rcases Nat.lt_or_ge j s.H.length with h1|h1
 ·rw [List.getElem?_append_left h1] at hj;exact hp.rep j g r hj
 ·rw [List.getElem?_append_right h1] at hj
  have h2:=(List.getElem?_eq_some_iff.1 hj).1
  simp at h2
  have h3:j=s.H.length:=by omega
  subst h3
  simp at hj
  obtain ⟨rfl,rfl⟩:=hj
  exact ⟨rfl,fun b hb=>hp.out _ (Nat.le_refl _) b hb⟩
theorem blk_ent (i:Nat) {g:Option Nat} {n m:Nat} {f F:Nat→CV} (hH:s.H[i]?=some (g,.blk n f)) (hn:m≤n) (hg:g=none→m=n) (hF:∀ j,j<m→CEnt (f j) (F j)):EntS G s ⟨s.env,s.b,s.H.set i (g,.blk m F)⟩:=fun St a w hr=>by
 refine ⟨St,fun _ h=>h,hr.df,hr.sz,hr.env,hr.un,hr.s1,hr.s2,hr.s3,?_,hr.sn,hr.sg⟩
 obtain ⟨fp,hp⟩:=hr.hp
 have hlt:i<s.H.length:=(List.getElem?_eq_some_iff.1 hH).1
 refine ⟨fp,fun j q r hj=>?_,hp.dis,hp.own,fun j hj=>hp.out j (by simpa using hj)⟩
 by_cases e:j=i
 ·subst e
  simp [hlt] at hj
  obtain ⟨rfl,rfl⟩:=hj
  have:=hp.rep j g _ hH
  cases g with
  | none=>exact ⟨by rw [hg rfl];exact this.1,this.2⟩
  | some g =>
   obtain ⟨h1,cur,ty,h2,h3,h4⟩:=this
   exact ⟨h1,cur,ty,h2,by omega,fun l hl=>hF l hl _ _ _ _ (h4 l (by omega))⟩
 ·rw [List.getElem?_set_ne (Ne.symm e)] at hj
  exact hp.rep j q r hj

theorem CEnt.agg2 {f g:Nat→CV} (h0:CEnt (f 0) (g 0)) (h1:CEnt (f 1) (g 1)):CEnt (.agg 2 f) (.agg 2 g):=CEnt.agg rfl fun i hi=>match i,hi with|0,_=>h0|1,_=>h1
theorem CEnt.agg3 {f g:Nat→CV} (h0:CEnt (f 0) (g 0)) (h1:CEnt (f 1) (g 1)) (h2:CEnt (f 2) (g 2)):CEnt (.agg 3 f) (.agg 3 g):=CEnt.agg rfl fun i hi=>match i,hi with|0,_=>h0|1,_=>h1|2,_=>h2
theorem CEnt.agg4 {f g:Nat→CV} (h0:CEnt (f 0) (g 0)) (h1:CEnt (f 1) (g 1)) (h2:CEnt (f 2) (g 2)) (h3:CEnt (f 3) (g 3)):CEnt (.agg 4 f) (.agg 4 g):=CEnt.agg rfl fun i hi=>match i,hi with|0,_=>h0|1,_=>h1|2,_=>h2|3,_=>h3
theorem CEnt.agg5 {f g:Nat→CV} (h0:CEnt (f 0) (g 0)) (h1:CEnt (f 1) (g 1)) (h2:CEnt (f 2) (g 2)) (h3:CEnt (f 3) (g 3)) (h4:CEnt (f 4) (g 4)):CEnt (.agg 5 f) (.agg 5 g):=CEnt.agg rfl fun i hi=>match i,hi with|0,_=>h0|1,_=>h1|2,_=>h2|3,_=>h3|4,_=>h4
theorem CEnt.agg6 {f g:Nat→CV} (h0:CEnt (f 0) (g 0)) (h1:CEnt (f 1) (g 1)) (h2:CEnt (f 2) (g 2)) (h3:CEnt (f 3) (g 3)) (h4:CEnt (f 4) (g 4)) (h5:CEnt (f 5) (g 5)):CEnt (.agg 6 f) (.agg 6 g):=CEnt.agg rfl fun i hi=>match i,hi with|0,_=>h0|1,_=>h1|2,_=>h2|3,_=>h3|4,_=>h4|5,_=>h5
def inF (l:List Int) (i:Nat):CV:=.c (.int .i64 (l.getD i 0))
def isC (l:List Int):CV:=.rs 1 l.length fun i _=>inF l i
theorem fl_ints (L:List Int) (j:Nat) (hj:j<L.length):CEnt (fl (L.map fun z=>.c (.int .i64 z)) j) (inF L j):=CEnt.of_eq (by
 rw [fl_get]
 simp [List.getD,hj,inF])
theorem fl_bytes (L:List UInt8) (j:Nat) (hj:j<L.length):CEnt (fl (L.map fun z=>.c (.int .u8 (z.toNat:Nat))) j) (byF L j):=CEnt.of_eq (by
 rw [fl_get]
 simp [List.getD,hj,byF])
inductive EqF (P:Program) (f g:Nat→CV):List Field→Prop→Prop where
 | nil:EqF P f g [] True
 | int {fd : Field} {fs : List Field} {k k' : IntKind} {a b : Int} {p : Prop} (h : P.underlying fd.type = some (.int k')) (hn : fd.name ≠ "_") (hf : f fd.offset = .c (.int k a)) (hg : g fd.offset = .c (.int k b)) (t : EqF P f g fs p) : EqF P f g (fd :: fs) (a = b ∧ p)
 | bool {fd : Field} {fs : List Field} {a b : Bool} {p : Prop} (h : P.underlying fd.type = some .bool) (hn : fd.name ≠ "_") (hf : f fd.offset = .c (.bool a)) (hg : g fd.offset = .c (.bool b)) (t : EqF P f g fs p) : EqF P f g (fd :: fs) (a = b ∧ p)
 | str {fd : Field} {fs : List Field} {a b : ByteArray} {p : Prop} (h : P.underlying fd.type = some .string) (hn : fd.name ≠ "_") (hf : f fd.offset = .c (.string a)) (hg : g fd.offset = .c (.string b)) (t : EqF P f g fs p) : EqF P f g (fd :: fs) (a = b ∧ p)
theorem run_part {d:TypeDesc} {t:TypeId} (h:P.underlying t=some d) (ha:aggB P t=false) {cs:Array Value} {i:Nat} {v:Value} (hv:cs[i]?=some v) (W:World):(part t cs i).run P W=.ok v W:=by
 simp [part,run_isAgg h,ha,hv]
theorem run_eqFields {f g:Nat→CV} {fs:List Field} {p:Prop} (h:EqF P f g fs p) {al:List Addr} {St:Nat→Prop} {w:World} {xs ys:Array Value} {n:Nat} (hx:xs.size=n) (hy:ys.size=n) (hf:∀ i,i<n→RepC al St w (f i) (xs.getD i undef)) (hg:∀ i,i<n→RepC al St w (g i) (ys.getD i undef))
  (hoff:(fs.all fun fd=>Nat.blt fd.offset n)=true) (d:Nat) (W:World):∃ r:Bool,(Op.eqFields (d+1) xs ys fs).run P W=.ok r W∧(r=true↔p):=by
 have get:∀ (c:Array Value) (q:Nat→CV) (i:Nat) (v:Value),c.size=n→i<n→(∀ i,i<n→RepC al St w (q i) (c.getD i undef))→q i=.c v→c[i]?=some v:=fun c q i v hc hi hq he=>by
  have:=hq i hi
  rw [he] at this
  have:c.getD i undef=v:=this
  rw [← this]
  have:i<c.size:=by omega
  simp [this]
 induction h with
 | nil=>exact ⟨true,by simp [Op.eqFields],by simp⟩
 | @int fd fs k k' a b p h hn h1 h2 _ ih =>
  simp only [List.all_cons,Bool.and_eq_true] at hoff
  obtain ⟨r,hr,hp⟩:=ih hoff.2
  have hlt:fd.offset<n:=Nat.le_of_ble_eq_true hoff.1
  have ha:aggB P fd.type=false:=by unfold aggB;rw [h]
  have e1:=run_part h ha (get xs f _ _ hx hlt hf h1) W
  have e2:=run_part h ha (get ys g _ _ hy hlt hg h2) W
  simp only [Op.eqFields,ne_eq,hn,not_false_eq_true,if_true,Sem.run_bind,e1,e2,Result.andThen_ok,run_equalIn_int W d fd.type k k' a b h,Sem.run_ite]
  by_cases hab:a=b
  ·subst hab;exact ⟨r,by simp [hr],by simp [hp]⟩
  ·exact ⟨false,by simp [hab],by simp [hab]⟩
 | @bool fd fs a b p h hn h1 h2 _ ih =>
  simp only [List.all_cons,Bool.and_eq_true] at hoff
  obtain ⟨r,hr,hp⟩:=ih hoff.2
  have hlt:fd.offset<n:=Nat.le_of_ble_eq_true hoff.1
  have ha:aggB P fd.type=false:=by unfold aggB;rw [h]
  have e1:=run_part h ha (get xs f _ _ hx hlt hf h1) W
  have e2:=run_part h ha (get ys g _ _ hy hlt hg h2) W
  simp only [Op.eqFields,ne_eq,hn,not_false_eq_true,if_true,Sem.run_bind,e1,e2,Result.andThen_ok,run_equalIn_bool' W d fd.type a b h,Sem.run_ite]
  by_cases hab:a=b
  ·subst hab;exact ⟨r,by simp [hr],by simp [hp]⟩
  ·exact ⟨false,by simp [hab],by simp [hab]⟩
 | @str fd fs a b p h hn h1 h2 _ ih =>
  simp only [List.all_cons,Bool.and_eq_true] at hoff
  obtain ⟨r,hr,hp⟩:=ih hoff.2
  have hlt:fd.offset<n:=Nat.le_of_ble_eq_true hoff.1
  have ha:aggB P fd.type=false:=by unfold aggB;rw [h]
  have e1:=run_part h ha (get xs f _ _ hx hlt hf h1) W
  have e2:=run_part h ha (get ys g _ _ hy hlt hg h2) W
  simp only [Op.eqFields,ne_eq,hn,not_false_eq_true,if_true,Sem.run_bind,e1,e2,Result.andThen_ok,run_equalIn_string W d fd.type a b h,Sem.run_ite]
  by_cases hab:a=b
  ·subst hab;exact ⟨r,by simp [hr],by simp [hp]⟩
  ·exact ⟨false,by simp [hab,toList_inj],by simp [hab]⟩
theorem rd_eqAgg {n:Nat} {f g:Nat→CV} {fs:Array Field} {p:Prop} [Decidable p] {t u:TypeId} {x y:Operand} (ho:o.op=.binOp .eql t x y u) (hx:s.eval x=.agg n f) (hy:s.eval y=.agg n g) (hS:P.underlying t=some (.struct fs)) (hp:P.stoodInHeld t=false) (hG:P.eqGuardType P.depth t=false) (hE:EqF P f g fs.toList p) (hoff:(fs.toList.all fun fd=>Nat.blt fd.offset n)=true):ARd P G o s (.c (.bool (decide p))):=fun St a w h=>by
 obtain ⟨xs,ex,hx1,hx2⟩:=evR h hx
 obtain ⟨ys,ey,hy1,hy2⟩:=evR h hy
 have hfs:P.fieldsOf t=fs:=by simp [Program.fieldsOf,hS]
 refine ⟨.bool (decide p),fun W _=>?_,rfl⟩
 obtain ⟨r,hr,hiff⟩:=run_eqFields hE hx1 hy1 hx2 hy2 hoff 9998 W
 simp only [execOp,ho,ex,ey]
 refine vOk ?_
 simp only [Sem.run_bind,run_eqGuard_agg _ _ _ _ _ _ _ hG,Result.andThen_ok,run_eql_struct]
 rw [show (10000:Nat)=9999+1 from rfl,run_equalIn_agg W 9999 t xs ys (by rw [hfs];exact hS) hp,hfs,hr]
 have:r=decide p:=by rw [Bool.eq_iff_iff,hiff];simp
 simp [this]
theorem rd_neAgg {n:Nat} {f g:Nat→CV} {fs:Array Field} {p:Prop} [Decidable p] {t u:TypeId} {x y:Operand} (ho:o.op=.binOp .neq t x y u) (hx:s.eval x=.agg n f) (hy:s.eval y=.agg n g) (hS:P.underlying t=some (.struct fs)) (hp:P.stoodInHeld t=false) (hG:P.eqGuardType P.depth t=false) (hE:EqF P f g fs.toList p) (hoff:(fs.toList.all fun fd=>Nat.blt fd.offset n)=true):ARd P G o s (.c (.bool (decide (¬ p)))):=fun St a w h=>by
 obtain ⟨xs,ex,hx1,hx2⟩:=evR h hx
 obtain ⟨ys,ey,hy1,hy2⟩:=evR h hy
 have hfs:P.fieldsOf t=fs:=by simp [Program.fieldsOf,hS]
 refine ⟨.bool (decide (¬ p)),fun W _=>?_,rfl⟩
 obtain ⟨r,hr,hiff⟩:=run_eqFields hE hx1 hy1 hx2 hy2 hoff 9998 W
 simp only [execOp,ho,ex,ey]
 refine vOk ?_
 simp only [Sem.run_bind,run_eqGuard_agg _ _ _ _ _ _ _ hG,Result.andThen_ok,run_neq_struct]
 rw [show (10000:Nat)=9999+1 from rfl,run_equalIn_agg W 9999 t xs ys (by rw [hfs];exact hS) hp,hfs,hr]
 have:r=decide p:=by rw [Bool.eq_iff_iff,hiff];simp
 simp [this]

theorem fl_at {cs:List CV} {j:Nat} (hj:j<cs.length):fl cs j=cs[j]:=by rw [fl_get];simp [List.getD,hj]
theorem entl_at {cs ds:List CV} (h:EntL cs ds):cs.length=ds.length∧∀ j,CEnt (fl cs j) (fl ds j):=by
 induction h with
 | nil=>exact ⟨rfl,fun _=>cZ⟩
 | cons h _ ih=>exact ⟨by simp [ih.1],fun j=>match j with|0=>h|j+1=>ih.2 j⟩
theorem hh_bytes {cs:List CV} {l2:List UInt8} (h:EntL cs (l2.map fun c=>.c (.int .u8 (c.toNat:Nat)))):∀ j,j<l2.length→CEnt (fl cs (0+j)) (byF l2 j):=fun j hj=>by
 rw [Nat.zero_add]
 exact ((entl_at h).2 j).trans (fl_bytes l2 j hj)
theorem leaf_fl {cs:List CV} {m:Nat} (h:cs.all leafC=true) (hm:m * 1=cs.length):∀ j,j<m * 1→leafC (fl cs (0+j))=true:=fun j hj=>by
 rw [Nat.zero_add,fl_at (by omega)]
 exact List.all_eq_true.1 h _ (List.getElem_mem ..)

theorem ac_calls {gs:List Nat} {al:List Addr} {f:FuncId} {args:List CV} {m:CV} {w:World} {vals:Array Value} (hA:ACp gs P f args m) (hS:SentL w gs al) (hs:vals.size=args.length) (hv:∀ i,RepC al (fun b=>b<w.heap.size) w (fl args i) (vals.getD i undef)) :
  Calls P f vals w fun e w'=>∃ v St',e=.returned v∧RepC al St' w' m v∧Below w.heap.size w w':=by
 have hg:∀ g ∈ lst gs,g<w.heap.size:=hS.lt
 have ha:∀ a ∈ al,a.block<w.heap.size:=fun a ha=>by
  obtain ⟨c,t,hc⟩:=hS.row a ha
  exact (Array.getElem?_eq_some_iff.1 hc).1
 refine (hA al w (fun b=>b<w.heap.size) (fun _=>False) vals ⟨fun _ h=>h,hS,⟨hg,ha⟩,⟨fun _ _=>False,fun i g r hi=>by simp at hi,fun _ _ _ h=>h.elim,fun _ _ h=>h.elim,fun _ _ _ h=>h⟩,fun _ h=>h.elim⟩ hs hv).mono ?_
 rintro e w' ⟨v,r,H',St',he,⟨rfl,rfl⟩,hr,hu,_⟩
 exact ⟨v,St',he,hr,hu.below⟩
theorem law_calls {gs:List Nat} {al:List Addr} {f:FuncId} {args:List CV} {w:World} {vals:Array Value} (hA:ACp gs P f args (.c (.bool true))) (hS:SentL w gs al) (hs:vals.size=args.length) (hv:∀ i,RepC al (fun b=>b<w.heap.size) w (fl args i) (vals.getD i undef)) :
  Calls P f vals w fun e w'=>e=.returned (.bool true)∧Below w.heap.size w w' :=
 (ac_calls hA hS hs hv).mono fun e w' ⟨v,St',he,hr,hb⟩=>⟨by rw [he];exact congrArg _ hr,hb⟩
theorem ac_old {gs:List Nat} {f:FuncId} {args:List CV} {r:Value} (h:∀ (al:List Addr) (w:World) (St:Nat→Prop) (vals:Array Value),SentL w gs al→vals.size=args.length→(∀ i,RepC al St w (fl args i) (vals.getD i undef))→Calls P f vals w fun e w'=>e=.returned r∧Below w.heap.size w w'):ACp gs P f args (.c r) :=
 fun al w St F0 vals he hs hv=>(h al w St vals he.sn hs hv).mono fun e w' ⟨h1,h2⟩=>by
  refine ⟨r,.c r,[],St,h1,⟨rfl,rfl⟩,rfl,⟨h2.os,h2.tape,h2.output,h2.size,fun k hk _=>h2.block k hk,fun b cur t z hb=>⟨cur,z,(h2.block b (Array.getElem?_eq_some_iff.1 hb).1).trans hb,rfl⟩⟩,fun _ h=>h,fun _ h=>.inl h,fun b hb=>Nat.lt_of_lt_of_le (he.s3 b hb) h2.size,HRel.none _ _ _ _ _⟩
theorem vals1 {vals:Array Value} (h:vals.size=1):vals=#[vals.getD 0 undef]:=by
 apply Array.ext
 ·simp [h]
 ·intro i h1 h2
  have:i=0:=by omega
  subst this
  simp [h]
theorem vals2 {vals:Array Value} (h:vals.size=2):vals=#[vals.getD 0 undef,vals.getD 1 undef]:=by
 apply Array.ext
 ·simp [h]
 ·intro i h1 h2
  have:i=0∨i=1:=by omega
  rcases this with e|e <;> subst e <;> simp [h]
theorem rd_iaddrO1 {e:TypeId} {j n i:Nat} {g:Option Nat} {z:Int} {t:TypeId} {x y:Operand} {k:IntKind} (ho:o.op=.indexAddr t x y) (hx:s.eval x=.os j g 0 n 1) (hy:s.eval y=.c (.int k z)) (h1:P.underlying t=some (.slice e))
  (h5:(P.info? e).map (·.size)=some 1) (hz:z=(i:Int)) (hi:i<n):ARd P G o s (.op j g i):=by
 have:=rd_iaddrO (G:=G) ho hx hy h1 h5 hz hi
 rwa [Nat.zero_add,Nat.mul_one] at this
theorem rep_nil {al:List Addr} {St:Nat→Prop} {w:World}:∀ i,RepC al St w (fl [] i) ((List.toArray ([]:List Value)).getD i undef):=fun _=>trivial
theorem rep_cons {al:List Addr} {St:Nat→Prop} {w:World} {c:CV} {cs:List CV} {v:Value} {vs:List Value} (h:RepC al St w c v) (t:∀ i,RepC al St w (fl cs i) ((List.toArray vs).getD i undef)):∀ i,RepC al St w (fl (c::cs) i) ((List.toArray (v::vs)).getD i undef)
 | 0=>h
 | i+1=>by
  have:=t i
  simpa [fl,Array.getD_eq_getD_getElem?] using this
theorem thawB (d:Nat) {i n N:Nat} {g:Option Nat} {F:Nat→CV} (l:List UInt8) (hl:look s.env s.b d=.os i g 0 n 1) (hH:s.H[i]?=some (g,.frz N F)) (hn:n=l.length) (hF:(N,F)=(l.length,byF l)) :
  EntS G s ⟨(d,bsC l)::s.env,s.b,s.H⟩:=by
 cases hF
 subst hn
 exact thaw d (fun a _=>byF l a) hl hH (by omega) (fun a b ha hb=>CEnt.of_eq (by rw [show 0+(a * 1+b)=a by omega]))
def RowC {α:Type} (k:Nat) (C:List α→Nat→CV):Prop:=∀ l l2 j,j<(l.length+l2.length) * k→(if j<l.length * k then C l j else C l2 (j-l.length * k))=C (l++l2) j
theorem rowC_in:RowC 1 inF:=fun l l2 j hj=>by
 simp only [inF,List.getD_eq_getElem?_getD]
 split
 ·rw [List.getElem?_append_left (by omega)]
 ·rw [List.getElem?_append_right (by omega),Nat.mul_one]
theorem rowC_row {α:Type} (k:Nat) (e:α→Nat→CV) (d:α):RowC k (rowF k e d):=fun l l2 j hj=>by
 rcases Nat.eq_zero_or_pos k with h0|h0
 ·subst h0;simp at hj
 split
 ·rename_i h1
  have h2:j / k<l.length:=Nat.div_lt_of_lt_mul (by rw [Nat.mul_comm];exact h1)
  simp only [rowF,List.getD_eq_getElem?_getD,List.getElem?_append_left h2]
 ·rename_i h1
  rw [Nat.add_mul] at hj
  obtain ⟨q,rfl⟩:∃ q,j=l.length * k+q:=⟨j-l.length * k,by omega⟩
  rw [Nat.add_sub_cancel_left]
  unfold rowF
  rw [Nat.mul_comm l.length k,Nat.mul_add_div h0,Nat.mul_add_mod,List.getD_eq_getElem?_getD,List.getD_eq_getElem?_getD,List.getElem?_append_right (Nat.le_add_right _ _),Nat.add_sub_cancel_left]
theorem m_appendC {α:Type} {C:List α→Nat→CV} {k:Nat} (hC:RowC k C) {e:TypeId} {z:Value} {i n N N' by_ d:Nat} {t u:TypeId} {p q:Operand} {env:List (Nat×CV)} {b0:Nat→CV} {H:List (Option Nat×Res)} {K:AS→Prop} {g:Option Nat} {f h:Nat→CV} {l l2:List α} {m:Nat} (ho:o.op=.call ⟨.builtin .append,#[p,q],#[t,u]⟩) (hx:(⟨env,b0,H⟩:AS).eval p=.os i g 0 n k) (hn:n=l.length) (hH:H[i]?=some (g,.blk N f)) (hN:l.length * k≤N) (hf:∀ j,j<l.length * k→CEnt (f j) (C l j))
  (hsrc:ASrc P G ⟨env,b0,H⟩ q k m h) (hm:m=l2.length) (hh:∀ j,j<l2.length * k→CEnt (h j) (C l2 j)) (h1:P.underlying t=some (.slice e)) (hu:notInt P u=true) (h5:(P.info? e).map (·.size)=some k) (hz:(P.info? e).map (·.zero)=some (some z)) (hby:(P.info? e).map (·.bytes)=some by_) (hzk:z.cells.size=k)
  (h63:l.length+l2.length≤9223372036854775807) (h48:(l.length+l2.length) * by_≤140737488355328) (hleaf:∀ j,j<m * k→leafC (h j)=true) (hd:o.dst=some d) (hdN:Nat.blt d G.N=true) (hN':(l++l2).length * k=N')
  (hK:∀ g',K ⟨(d,.os i g' 0 (l++l2).length k)::env,b0,H.set i (g',.blk N' (C (l++l2)))⟩):AMd P G o ⟨env,b0,H⟩ K:=by
 subst hm hn
 refine m_append ho hx hH hN hsrc h1 hu h5 hz hby h63 h48 hzk (C (l++l2)) (fun j hj=>?_) hleaf hd hdN List.length_append.symm (by rw [← List.length_append];exact hN') hK
 rw [← hC l l2 j hj]
 unfold appF
 split
 ·rename_i h;exact hf j h
 ·rename_i h
  refine hh _ ?_
  rw [Nat.add_mul] at hj
  omega
theorem hh_ints {cs:List CV} {l2:List Int} (h:EntL cs (l2.map fun c=>.c (.int .i64 c))):∀ j,j<l2.length * 1→CEnt (fl cs (0+j)) (inF l2 j):=fun j hj=>by
 rw [Nat.zero_add]
 exact ((entl_at h).2 j).trans (fl_ints l2 j (by omega))
theorem leaf_flk {cs:List CV} {m k:Nat} (h:cs.all leafC=true) (hm:m * k=cs.length):∀ j,j<m * k→leafC (fl cs (0+j))=true:=fun j hj=>by
 rw [Nat.zero_add,fl_at (by omega)]
 exact List.all_eq_true.1 h _ (List.getElem_mem ..)
end
end
section
theorem sz3:(Tryz.prog.info? 3).map (·.size)=some 1:=by kernel_rfl
theorem by3:(Tryz.prog.info? 3).map (·.bytes)=some 8:=by kernel_rfl
theorem zr3:(Tryz.prog.info? 3).map (·.zero)=some (some (.int .i64 0)):=by kernel_rfl
theorem sz5:(Tryz.prog.info? 5).map (·.size)=some 1:=by kernel_rfl
theorem by5:(Tryz.prog.info? 5).map (·.bytes)=some 1:=by kernel_rfl
theorem zr5:(Tryz.prog.info? 5).map (·.zero)=some (some (.int .u8 0)):=by kernel_rfl
theorem sz9:(Tryz.prog.info? 9).map (·.size)=some 1:=by kernel_rfl
theorem by9:(Tryz.prog.info? 9).map (·.bytes)=some 16:=by kernel_rfl
theorem zr9:(Tryz.prog.info? 9).map (·.zero)=some (some (.string ByteArray.empty)):=by kernel_rfl
theorem sz22:(Tryz.prog.info? 22).map (·.size)=some 1:=by kernel_rfl
theorem by22:(Tryz.prog.info? 22).map (·.bytes)=some 24:=by kernel_rfl
theorem nu22:notInt Tryz.prog 22=true:=by kernel_rfl
theorem zr22:(Tryz.prog.info? 22).map (·.zero)=some (some (.slice none 0 0)):=by kernel_rfl
theorem zr26:(Tryz.prog.info? 26).map (·.zero)=some (some (.agg #[.int .i64 0,.string ByteArray.empty,.string ByteArray.empty])):=by kernel_rfl
theorem pl26:plOf Tryz.prog 26=some [(0,1),(1,1),(2,1)]:=by kernel_rfl
theorem zr28:(Tryz.prog.info? 28).map (·.zero)=some (some (.nilIface)):=by kernel_rfl
theorem nu38:notInt Tryz.prog 38=true:=by kernel_rfl
theorem nu51:notInt Tryz.prog 51=true:=by kernel_rfl
theorem zr51:(Tryz.prog.info? 51).map (·.zero)=some (some (.slice none 0 0)):=by kernel_rfl
theorem nu53:notInt Tryz.prog 53=true:=by kernel_rfl
theorem zr55:(Tryz.prog.info? 55).map (·.zero)=some (some (.agg #[.slice none 0 0,.slice none 0 0,.nilIface])):=by kernel_rfl
theorem pl55:plOf Tryz.prog 55=some [(0,1),(1,1),(2,1)]:=by kernel_rfl
theorem nu57:notInt Tryz.prog 57=true:=by kernel_rfl
theorem zr59:(Tryz.prog.info? 59).map (·.zero)=some (some (.agg #[.slice none 0 0,.slice none 0 0,.int .i64 0])):=by kernel_rfl
theorem pl59:plOf Tryz.prog 59=some [(0,1),(1,1),(2,1)]:=by kernel_rfl
theorem zr63:(Tryz.prog.info? 63).map (·.zero)=some (some (.agg #[.int .i64 0,.int .i64 0,.bool false,.slice none 0 0,.string ByteArray.empty])):=by kernel_rfl
theorem pl63:plOf Tryz.prog 63=some [(0,1),(1,1),(2,1),(3,1),(4,1)]:=by kernel_rfl
theorem zr76:(Tryz.prog.info? 76).map (·.zero)=some (some (.agg #[.int .i64 0,.int .i64 0,.int .i64 0,.int .i64 0])):=by kernel_rfl
theorem pl76:plOf Tryz.prog 76=some [(0,1),(1,1),(2,1),(3,1)]:=by kernel_rfl
theorem sz81:(Tryz.prog.info? 81).map (·.size)=some 1:=by kernel_rfl
theorem by81:(Tryz.prog.info? 81).map (·.bytes)=some 24:=by kernel_rfl
theorem nu81:notInt Tryz.prog 81=true:=by kernel_rfl
theorem zr81:(Tryz.prog.info? 81).map (·.zero)=some (some (.slice none 0 0)):=by kernel_rfl
theorem zr83:(Tryz.prog.info? 83).map (·.zero)=some (some (.agg #[.slice none 0 0,.int .i64 0])):=by kernel_rfl
theorem pl83:plOf Tryz.prog 83=some [(0,1),(1,1)]:=by kernel_rfl
theorem nu88:notInt Tryz.prog 88=true:=by kernel_rfl
theorem sz91:(Tryz.prog.info? 91).map (·.size)=some 2:=by kernel_rfl
theorem by91:(Tryz.prog.info? 91).map (·.bytes)=some 32:=by kernel_rfl
theorem zr91:(Tryz.prog.info? 91).map (·.zero)=some (some (.agg #[.string ByteArray.empty,.string ByteArray.empty])):=by kernel_rfl
theorem pl91:plOf Tryz.prog 91=some [(0,1),(1,1)]:=by kernel_rfl
theorem sz98:(Tryz.prog.info? 98).map (·.size)=some 2:=by kernel_rfl
theorem by98:(Tryz.prog.info? 98).map (·.bytes)=some 32:=by kernel_rfl
theorem zr98:(Tryz.prog.info? 98).map (·.zero)=some (some (.agg #[.int .i64 0,.slice none 0 0])):=by kernel_rfl
theorem pl98:plOf Tryz.prog 98=some [(0,1),(1,1)]:=by kernel_rfl
theorem zr116:(Tryz.prog.info? 116).map (·.zero)=some (some (.agg #[.slice none 0 0,.nilIface])):=by kernel_rfl
theorem pl116:plOf Tryz.prog 116=some [(0,1),(1,1)]:=by kernel_rfl
theorem zr118:(Tryz.prog.info? 118).map (·.zero)=some (some (.agg #[.int .i64 0,.slice none 0 0])):=by kernel_rfl
theorem pl118:plOf Tryz.prog 118=some [(0,1),(1,1)]:=by kernel_rfl
end
section
open Go.RowKit
theorem updF_one (f:Nat→CV) (off:Nat) (x:CV) (j:Nat):updF f off [x] j=if j=off then x else f j:=by
 rw [updF_get]
 by_cases h:j=off
 ·subst h;rw [if_pos (by simp),if_pos rfl,Nat.sub_self];rfl
 ·rw [if_neg (by simp;omega),if_neg h]
section
variable {P:Program} {G:Gh} {ops:Array Oper} {o:Oper} {s:AS} {r:List Oper} {K:AS→Prop} {t u:TypeId} {x y:Operand} {env:List (Nat×CV)} {b0:Nat→CV} {H:List (Option Nat×Res)}

theorem ac_len {gs:List Nat} {P:Program} {f:FuncId} {H:List (Option Nat×Res)} {args:List CV} {Q:CV→List (Option Nat×Res)→Prop} (j:Nat) {k n:Nat} {F:Nat→Nat→CV} (hj:fl args j=.rs k n F) (h:n≤9223372036854775807→AC gs P f H args Q):AC gs P f H args Q:=fun al w St F0 vals he hs hv=>by
 have h1:=hv j
 rw [hj] at h1
 obtain ⟨ao,cap,_,h2,h3,_⟩:=id h1
 exact h (by omega) al w St F0 vals he hs hv
theorem CEnt.nilS' {n k:Nat} {f:Nat→Nat→CV} (h:n=0):CEnt (.c (.slice none 0 0)) (.rs k n f):=by subst h;exact CEnt.nilS k f
theorem fl_by {cs:List CV} {l2:List UInt8} (h:EntL cs (l2.map fun c=>.c (.int .u8 (c.toNat:Nat)))):∀ j,j<l2.length→CEnt (fl cs j) (byF l2 j):=fun j hj=>by
 have:=hh_bytes h j hj
 rwa [Nat.zero_add] at this
theorem eqG_slice (op:BinOp) (t:TypeId) (x y:Operand) (a b:Option Addr) (n c n' c':Nat) (W:World):(eqGuard op t x y (.slice a n c) (.slice b n' c')).run P W=.ok () W:=by
 unfold eqGuard
 split <;> simp
theorem run_slice_nil {e:TypeId} (ht:P.underlying t=some (.slice e)) (a:Option Addr) (n c:Nat) (W:World):(Op.equal t (.slice a n c) (.slice none 0 0)).run P W=.ok a.isNone W:=by
 show (Op.equalIn 10000 t (.slice a n c) (.slice none 0 0)).run P W=_
 rw [show (10000:Nat)=9999+1 from rfl,Op.equalIn]
 cases a <;> simp only [underlying,Sem.run_bind,run_program,Result.andThen_ok,ht,Sem.run_pure] <;> rfl
theorem exec_eqSnil {e:TypeId} (ho:o.op=.binOp .eql t x y u) {a:Act} {ao:Option Addr} {n c:Nat} (hx:a.eval x=.slice ao n c) (hy:a.eval y=.slice none 0 0) (ht:P.underlying t=some (.slice e)) (W:World):(execOp a.eval o).run P W=.ok (.value (.bool ao.isNone)) W:=by
 simp only [execOp,ho,hx,hy]
 refine vOk ?_
 simp [eqG_slice,binOp,run_slice_nil ht]
theorem rd_eqSO {e:TypeId} {i off n k:Nat} {g:Option Nat} (ho:o.op=.binOp .eql t x y u) (hx:s.eval x=.os i g off n k) (hy:s.eval y=.c (.slice none 0 0)) (ht:P.underlying t=some (.slice e)):ARd P G o s (.c (.bool g.isNone)):=fun St a w h=>by
 have he:=evR h hx
 cases g with
 | none=>exact ⟨_,fun W _=>exec_eqSnil ho he.2 (evC h hy) ht W,rfl⟩
 | some b=>obtain ⟨cap,e0,_⟩:=he;exact ⟨_,fun W _=>exec_eqSnil ho e0 (evC h hy) ht W,rfl⟩
theorem seq_eqNil {e:TypeId} {k n d:Nat} {f:Nat→Nat→CV} (hw:Wanted G ops o ⟨env,b0,H⟩ true) (ho:o.op=.binOp .eql t x y u) (hx:(⟨env,b0,H⟩:AS).eval x=.rs k n f) (hy:(⟨env,b0,H⟩:AS).eval y=.c (.slice none 0 0)) (ht:P.underlying t=some (.slice e)) (hd:o.dst=some d) (hN:Nat.blt d G.N=true)
  (h1:n=0→ASeq P G ops r ⟨(d,.c (.bool true))::env,b0,H⟩ K) (h2:ASeq P G ops r ⟨(d,.c (.bool false))::env,b0,H⟩ K):ASeq P G ops (o::r) ⟨env,b0,H⟩ K:=fun a w ⟨St,hr⟩ Q hQ=>by
 unfold wpSeq
 rw [if_pos (hw St a w hr)]
 obtain ⟨ao,cap,e0,h3,h4,h5,h6⟩:=evR hr hx
 refine .inl ?_
 unfold Oper.wp
 rw [exec_eqSnil ho e0 (evC hr hy) ht w]
 have put:∀ b:Bool,RelSt G St ⟨(d,.c (.bool b))::env,b0,H⟩ (a.put o.dst (.bool b)) w:=fun b=>by
  have:=hr.put (dst:=o.dst) (v:=.c (.bool b)) (x:=.bool b) (dst_of (dst_s hd hN)) rfl
  rwa [hd] at this ⊢
 cases ao with
 | none=>exact h1 (by have:=h5 rfl;omega) _ _ ⟨St,put true⟩ Q hQ
 | some ad=>exact h2 _ _ ⟨St,put false⟩ Q hQ

theorem thawBL (d:Nat) {i n N:Nat} {g:Option Nat} {cs:List CV} (l:List UInt8) (hl:look s.env s.b d=.os i g 0 n 1) (hH:s.H[i]?=some (g,.frz N (fl cs))) (hn:n=l.length) (hN:Nat.ble n N=true) (he:EntL cs (l.map fun c=>.c (.int .u8 (c.toNat:Nat)))) :
  EntS G s ⟨(d,bsC l)::s.env,s.b,s.H⟩:=by
 subst hn
 have hN:=Nat.le_of_ble_eq_true hN
 exact thaw d (fun a _=>byF l a) hl hH (by omega) (fun a b ha hb=>by
  have:=hh_bytes he a ha
  rwa [show 0+(a * 1+b)=0+a by omega])
theorem thawIL (d:Nat) {i n N:Nat} {g:Option Nat} {F:Nat→CV} (l:List Int) (hl:look s.env s.b d=.os i g 0 n 1) (hH:s.H[i]?=some (g,.frz N F)) (hn:n=l.length) (hN:Nat.ble n N=true) (he:∀ j,j<l.length→CEnt (F j) (inF l j)) :
  EntS G s ⟨(d,isC l)::s.env,s.b,s.H⟩:=by
 subst hn
 have hN:=Nat.le_of_ble_eq_true hN
 exact thaw d (fun a _=>inF l a) hl hH (by omega) (fun a b ha hb=>by
  have:=he a ha
  rwa [show 0+(a * 1+b)=a by omega])
def wide8:IntKind→Bool|.i8=>false|_=>true
theorem wide8_wrap {k:IntKind} (h:wide8 k=true) {z:Int} (h0:0≤z) (h1:z<256):k.wrap z=z:=by
 cases k <;> first|(simp [wide8] at h;done)|(refine wrap_id ?_;show _∧_;omega)
theorem rd_conv8 {c:UInt8} {k':IntKind} {d:TypeDesc} (ho:o.op=.convert t u x) (hx:s.eval x=.c (.int .u8 ((c.toNat:Nat):Int))) (h1:P.underlying t=some d) (h2:P.underlying u=some (.int k')) (hk:wide8 k'=true):ARd P G o s (.c (.int k' ((c.toNat:Nat):Int))) :=
 rd_convI ho hx h1 h2 _ (wide8_wrap hk (by omega) (by have:=c.toNat_lt;omega))
end
end
section
open Go.RowKit
section
variable {P:Program} {G:Gh} {ops:Array Oper} {o:Oper} {s:AS} {r:List Oper} {K:AS→Prop} {t u:TypeId} {x y:Operand} {env:List (Nat×CV)} {b0:Nat→CV} {H:List (Option Nat×Res)}
theorem exec_cap {ats:Array TypeId} (ho:o.op=.call ⟨.builtin .cap,#[x],ats⟩) {a:Act} {v:Value} {w:World} (h:(Builtin.cap_ ats o.type #[a.eval x]).run P w=.ok v w):(execOp a.eval o).run P w=.ok (.value v) w:=by
 simp [execOp,ho,resolve,invoke,builtin,h]
theorem rd_capN {e:TypeId} (ho:o.op=.call ⟨.builtin .cap,#[x],#[t]⟩) (hx:s.eval x=.c (.slice none 0 0)) (h1:P.underlying t=some (.slice e)):ARd P G o s (.c (.int .i64 0)):=fun St a w h =>
 ⟨_,fun W _=>exec_cap ho (v:=.int .i64 0) (by rw [evC h hx];simp [Builtin.cap_,underlying,h1,goInt]),rfl⟩
theorem rd_sliceN {e:TypeId} {m l v:Nat} {lo hi:Option Operand} (ho:o.op=.slice t x lo hi none) (hx:s.eval x=.c (.slice none 0 0)) (h1:P.underlying t=some (.slice e)) (h5:(P.info? e).map (·.size)=some m)
  (hl:Bd s 0 lo l) (hu:Bd s 0 hi v) (hlv:l≤v) (hvn:v≤0):ARd P G o s (.c (.slice none 0 0)):=fun St a w h=>by
 obtain ⟨info,hi',hs⟩:=Option.map_eq_some_iff.1 h5
 have hl0:l=0:=by omega
 have hv0:v=0:=by omega
 subst hl0 hv0
 refine ⟨.slice none 0 0,fun W _=>exec_slice ho ?_,rfl⟩
 rw [evC h hx]
 simp [Instr.sliceAt,Instr.slice,underlying,h1,run_bounds h hl hu hlv hvn (Nat.le_refl _),sizeOf,typeInfo,hi',hs]
theorem run_app_zero {e ty:TypeId} {info:TypeInfo} {z:Value} {n:Nat} {w:World} (h1:P.underlying t=some (.slice e)) (hu:P.underlying u=some (.int .i64)) (hi:P.info? e=some info) (hz:info.zero=some z) (hk:0<info.size) (hn:0<n) (h63:n≤9223372036854775807) (h48:n * info.bytes≤140737488355328) :
  (Builtin.append_ #[t,u] ty #[.slice none 0 0,.int .i64 (n:Nat)]).run P w=.ok (.slice (some ⟨w.heap.size,0,none⟩) n (grownCap w n 0 e)) (w.drew.alloc (.cells (#[]++Builtin.zeroCells z.cells n++Builtin.zeroCells z.cells (grownCap w n 0 e-n)) e)):=by
 have hw:IntKind.i64.wrap (n:Int)=(n:Int):=wrap_id (k:=.i64) (by show _∧_;omega)
 have hneg:¬ ((n:Int)<0):=by omega
 have hb:¬ ((n:Int) * (info.bytes:Int)>2 ^ 48):=by
  have h:((n * info.bytes:Nat):Int)≤140737488355328:=by omega
  rw [Int.natCast_mul] at h;omega
 have hnot:¬ (0+n≤0):=by omega
 have hfit:=growslice_fits (need:=n) (old:=0) (by omega) h48
 have h49:¬ (Builtin.nextslicecap n 0 * info.bytes>2 ^ 48):=by omega
 have h64:¬ (((n:Nat):Int)>IntKind.i64.max∧(true=true∨info.bytes=0)):=by simp [IntKind.max,IntKind.bits,IntKind.signed];omega
 have hch:(choose (.appendCap n 0 e)).run P w=.ok (grownCap w n 0 e) w.drew:=by simp [Question.forced,grownCap]
 have hns:¬ (n * info.size=0):=by have:=Nat.mul_pos hn hk;omega
 simp only [Builtin.append_,List.getElem?_toArray,List.getElem?_cons_zero,List.getElem?_cons_succ,underlying,Sem.run_bind,run_program,Result.andThen_ok,h1,hu,Sem.run_pure,sizeOf,typeInfo,hi,asInt,asIntOf,hw,if_neg hneg,if_neg hb,Int.toNat_natCast,Nat.zero_add,if_true,if_neg (show ¬ n≤0 by omega),hz,zeroValue,if_neg h49,hch,run_askRoom,Builtin.firstCells,Bool.not_true,Bool.false_eq_true,if_false,if_neg hns,newRow,run_newObj,World.alloc_eq]
 rw [if_neg (by simp [IntKind.max,IntKind.bits,IntKind.signed];omega)]
 simp only [Sem.run_bind,run_program,Result.andThen_ok,Sem.run_pure,hi,hz,if_neg h49,hch,run_askRoom,newRow,run_newObj,World.alloc_eq,World.size_drew]
theorem e_appZ {e:TypeId} {z:Value} {n k by_ d:Nat} {zn:Int} {F:Nat→CV} (ho:o.op=.call ⟨.builtin .append,#[x,y],#[t,u]⟩) (hx:(⟨env,b0,H⟩:AS).eval x=.c (.slice none 0 0)) (hy:(⟨env,b0,H⟩:AS).eval y=.c (.int .i64 zn)) (hn:zn=(n:Int)) (hn0:0<n) (h1:P.underlying t=some (.slice e)) (hu:P.underlying u=some (.int .i64)) (h5:(P.info? e).map (·.size)=some k) (hk0:0<k) (hz:(P.info? e).map (·.zero)=some (some z)) (hby:(P.info? e).map (·.bytes)=some by_)
  (h48:n * by_≤140737488355328) (h63:n≤4611686018427387904) (hzk:z.cells.size=k) (hd:o.dst=some d) (hN:Nat.blt d G.N=true)
  (hK:∀ g,K ⟨(d,.os H.length g 0 n k)::env,b0,H++[(g,.blk 0 F)]⟩):AEx P G o ⟨env,b0,H⟩ K :=
 AEx.new (dst_s hd hN) (fun g=>.os H.length g 0 n k) (fun St a w hr=>by
  obtain ⟨info,hi,h6⟩:=Option.map_eq_some_iff.1 h5
  obtain ⟨info',hi',hz⟩:=Option.map_eq_some_iff.1 hz
  obtain rfl:=Option.some.inj (hi.symm.trans hi')
  obtain ⟨info',hi',hby⟩:=Option.map_eq_some_iff.1 hby
  obtain rfl:=Option.some.inj (hi.symm.trans hi')
  subst hn
  have hrun:=run_app_zero (P:=P) (t:=t) (u:=u) (ty:=o.type) (w:=w) h1 hu hi hz (by omega) hn0 (by omega) (by rw [hby];exact h48)
  have hgc:n≤grownCap w n 0 e∧grownCap w n 0 e≤9223372036854775807:=by
   have hlt:=Nat.mod_lt (w.tape w.drawn (.appendCap n 0 e)) (show 0<2 ^ 63-n by omega)
   simp only [grownCap,Question.cut]
   omega
  have hsz:(#[]++Builtin.zeroCells z.cells n++Builtin.zeroCells z.cells (grownCap w n 0 e-n)).size=grownCap w n 0 e * k:=by
   simp [Builtin.zeroCells,hzk]
   rw [← Nat.add_mul]
   congr 1
   omega
  have hargs:(#[x,y]:Array Operand).map a.eval=#[a.eval x,a.eval y]:=by simp
  refine ⟨w.drew.alloc (.cells (#[]++Builtin.zeroCells z.cells n++Builtin.zeroCells z.cells (grownCap w n 0 e-n)) e),w.heap.size,_,e,.slice (some ⟨w.heap.size,0,none⟩) n (grownCap w n 0 e),?_,below_drewAlloc w _,Nat.le_refl _,heap_alloc_new w.drew _,Nat.zero_le _,fun j hj=>absurd hj (Nat.not_lt_zero j),grownCap w n 0 e,rfl,hgc.1,hgc.2,_,e,(0,0),heap_alloc_new w.drew _,?_⟩
  ·exact exec_append ho (by rw [hargs,evC hr hx,evC hr hy];exact hrun)
  ·rw [hsz];omega) (fun g=>by rw [with_some hd];exact hK g)
end
theorem CEnt.nilE {n:Nat} (h:n=0):CEnt (.c .nilIface) (.err n):=by subst h;exact CEnt.nil
def lbC (ls:List (List UInt8)):CV:=.rs 1 ls.length fun i _=>bsC (ls.getD i [])
theorem thawLB {G:Gh} {s:AS} (d:Nat) {i n N:Nat} {g:Option Nat} {cs:List CV} (ls:List (List UInt8)) (hl:look s.env s.b d=.os i g 0 n 1) (hH:s.H[i]?=some (g,.frz N (fl cs))) (hn:n=ls.length) (hN:Nat.ble n N=true) (he:EntL cs (ls.map bsC)) :
  EntS G s ⟨(d,lbC ls)::s.env,s.b,s.H⟩:=by
 subst hn
 have hN:=Nat.le_of_ble_eq_true hN
 exact thaw d (fun a _=>bsC (ls.getD a [])) hl hH (by omega) (fun a b ha hb=>by
  have:=(entl_at he).2 a
  rw [fl_at (cs:=ls.map bsC) (by simpa using ha)] at this
  obtain rfl:b=0:=by omega
  rw [show 0+(a * 1+0)=a by omega]
  simpa [List.getD,ha] using this)
def sumL (ls:List (List UInt8)):Nat:=(ls.map List.length).sum
theorem sumL_app (a b:List (List UInt8)):sumL (a++b)=sumL a+sumL b:=by simp only [sumL,List.map_append,List.sum_append]
theorem sumL_take {ls:List (List UInt8)} {i:Nat} (h:i<ls.length):sumL (ls.take (i+1))=sumL (ls.take i)+(ls.getD i []).length:=by
 rw [List.take_succ_eq_append_getElem h,sumL_app]
 simp only [sumL,List.map_cons,List.map_nil,List.sum_cons,List.sum_nil,List.getD,List.getElem?_eq_getElem h,Option.getD_some,Nat.add_zero]
theorem sumL_le (ls:List (List UInt8)) (i:Nat):sumL (ls.take i)≤sumL ls:=by
 have h:=sumL_app (ls.take i) (ls.drop i)
 rw [List.take_append_drop] at h
 omega
theorem flat_take {ls:List (List UInt8)} {i:Nat} (h:i<ls.length):(ls.take (i+1)).flatten=(ls.take i).flatten++ls.getD i []:=by
 rw [List.take_succ_eq_append_getElem h,List.flatten_append,List.flatten_singleton]
 simp only [List.getD,List.getElem?_eq_getElem h,Option.getD_some]
theorem flat_len (ls:List (List UInt8)):ls.flatten.length=sumL ls:=by simp [sumL,List.length_flatten]
end
section
open Go.RowKit
structure Foot (al:List Addr) (St:Nat→Prop) (w:World) (F:Nat→Prop) (E:List (Option Nat×Res)) (fp:Nat→Nat→Prop):Prop where
 rep:∀ (i:Nat) (g:Option Nat) (r:Res),E[i]?=some (g,r)→r.rep al St w (fp i) g
 dis:∀ i j b,fp i b→fp j b→i=j
 out:∀ i,E.length≤i→∀ b,¬ fp i b
 all:∀ b,F b↔∃ i,fp i b
def packOP {γ:Type} (gd:γ→Nat) (E:γ→List (Option Nat×Res)):OP where
 p al St w g F:=∃ x,gd x=g∧∃ fp,Foot al St w F (E x) fp
 st:=fun he hs hF ⟨x,hx,fp,h⟩=>⟨x,hx,fp,fun i g r hi=>Res.rep_evo he hs (fun b hb=>hF b ((h.all b).2 ⟨i,hb⟩)) (h.rep i g r hi),h.dis,h.out,h.all⟩
def objE {γ:Type} (g:Nat) (gd:γ→Nat) (E:γ→List (Option Nat×Res)):Option Nat×Res:=(some g,.obj (packOP gd E))

theorem HRel.pack {al:List Addr} {St:Nat→Prop} {w:World} {base:Nat} {F0:Nat→Prop} {γ:Type} {gd:γ→Nat} {E:γ→List (Option Nat×Res)} (x:γ) {B:List (Option Nat×Res)} (h:HRel al St w base F0 (E x++B)):HRel al St w base F0 (objE (gd x) gd E::B):=by
 obtain ⟨fp,hp⟩:=h
 refine ⟨fun j b=>match j with|0=>∃ i,i<(E x).length∧fp i b|j+1=>fp ((E x).length+j) b,fun j g r hj=>?_,fun i j b hi hj=>?_,fun i b hi=>?_,fun i hi b hb=>?_⟩
 ·cases j with
  | zero =>
   simp only [objE,List.getElem?_cons_zero,Option.some.injEq,Prod.mk.injEq] at hj
   obtain ⟨rfl,rfl⟩:=hj
   refine ⟨x,rfl,fun i b=>i<(E x).length∧fp i b,fun i g r hi=>?_,fun i j b hi hj=>hp.dis i j b hi.2 hj.2,fun i hi b hb=>by omega,fun b=>Iff.rfl⟩
   have hlt:=(List.getElem?_eq_some_iff.1 hi).1
   have e:(fun b=>i<(E x).length∧fp i b)=fp i:=funext fun b=>propext ⟨fun h=>h.2,fun h=>⟨hlt,h⟩⟩
   show r.rep al St w (fun b=>i<(E x).length∧fp i b) g
   rw [e]
   exact hp.rep i g r (by rw [List.getElem?_append_left hlt];exact hi)
  | succ j =>
   simp only [List.getElem?_cons_succ] at hj
   exact hp.rep _ g r (by rw [List.getElem?_append_right (by omega),Nat.add_sub_cancel_left];exact hj)
 ·cases i with
  | zero =>
   cases j with
   | zero=>rfl
   | succ j=>obtain ⟨k,hk,hf⟩:=hi;have:=hp.dis _ _ b hf hj;omega
  | succ i =>
   cases j with
   | zero=>obtain ⟨k,hk,hf⟩:=hj;have:=hp.dis _ _ b hf hi;omega
   | succ j=>have:=hp.dis _ _ b hi hj;omega
 ·cases i with
  | zero=>obtain ⟨k,hk,hf⟩:=hi;exact hp.own _ b hf
  | succ i=>exact hp.own _ b hi
 ·cases i with
  | zero=>simp at hi
  | succ i=>exact hp.out _ (by simp at hi ⊢;omega) b hb
theorem HRel.unpack {al:List Addr} {St:Nat→Prop} {w:World} {base:Nat} {F0:Nat→Prop} {γ:Type} {gd:γ→Nat} {e0:γ→Option Nat×Res} {tl:γ→List (Option Nat×Res)} {H:List (Option Nat×Res)} {i g:Nat} (hH:H[i]?=some (objE g gd fun x=>e0 x::tl x)) (h:HRel al St w base F0 H) :
  ∃ x,gd x=g∧HRel al St w base F0 (H.set i (e0 x)++tl x):=by
 obtain ⟨fp,hp⟩:=h
 have hlt:=(List.getElem?_eq_some_iff.1 hH).1
 obtain ⟨x,hx,fe,he⟩:=hp.rep i _ _ hH
 refine ⟨x,hx,fun j b=>if j<H.length then (if j=i then fe 0 b else fp j b) else fe (j-H.length+1) b,fun j q r hj=>?_,fun j k b hj hk=>?_,fun j b hj=>?_,fun j hj b hb=>?_⟩
 ·by_cases h1:j<H.length
  ·rw [List.getElem?_append_left (by simpa using h1)] at hj
   by_cases h2:j=i
   ·subst h2
    simp [h1] at hj
    simp only [h1,if_true]
    exact he.rep 0 q r (by simp [hj])
   ·rw [List.getElem?_set_ne (Ne.symm h2)] at hj
    simp only [h1,h2,if_true,if_false]
    exact hp.rep j q r hj
  ·rw [List.getElem?_append_right (by simp;omega)] at hj
   simp only [h1,if_false]
   refine he.rep (j-H.length+1) q r ?_
   simpa using hj
 ·have inF:∀ q b,fe q b→fp i b:=fun q b hq=>(he.all b).2 ⟨q,hq⟩
  by_cases h1:j<H.length <;> by_cases h2:k<H.length <;> simp only [h1,h2,if_true,if_false] at hj hk
  ·by_cases h3:j=i <;> by_cases h4:k=i <;> simp only [h3,h4,if_true,if_false] at hj hk
   ·omega
   ·exact absurd (hp.dis _ _ b (inF _ _ hj) hk).symm h4
   ·exact absurd (hp.dis _ _ b hj (inF _ _ hk)) h3
   ·exact hp.dis _ _ b hj hk
  ·by_cases h3:j=i <;> simp only [h3,if_true,if_false] at hj
   ·have:=he.dis _ _ b hj hk;omega
   ·exact absurd (hp.dis _ _ b hj (inF _ _ hk)) h3
  ·by_cases h4:k=i <;> simp only [h4,if_true,if_false] at hk
   ·have:=he.dis _ _ b hj hk;omega
   ·exact absurd (hp.dis _ _ b hk (inF _ _ hj)) h4
  ·have:=he.dis _ _ b hj hk;omega
 ·have inF:∀ q b,fe q b→fp i b:=fun q b hq=>(he.all b).2 ⟨q,hq⟩
  by_cases h1:j<H.length <;> simp only [h1,if_true,if_false] at hj
  ·by_cases h3:j=i <;> simp only [h3,if_true,if_false] at hj
   ·exact hp.own i b (inF _ _ hj)
   ·exact hp.own j b hj
  ·exact hp.own i b (inF _ _ hj)
 ·have h1:¬ j<H.length:=by simp at hj;omega
  simp only [h1,if_false] at hb
  exact he.out _ (by simp at hj ⊢;omega) b hb
section
variable {P:Program} {G:Gh} {ops:Array Oper} {s:AS} {K:AS→Prop} {c:Code} {R:Exit→AS→Prop} {γ:Type} {gd:γ→Nat} {e0:γ→Option Nat×Res} {tl:γ→List (Option Nat×Res)}
theorem EntS.hrel {H':List (Option Nat×Res)} (h:∀ {al St w base F0},HRel al St w base F0 s.H→HRel al St w base F0 H'):EntS G s ⟨s.env,s.b,H'⟩:=fun St _ _ hr =>
 ⟨St,fun _ h=>h,hr.df,hr.sz,hr.env,hr.un,hr.s1,hr.s2,hr.s3,h hr.hp,hr.sn,hr.sg⟩
theorem pick_ent {H':List (Option Nat×Res)} (l:List Nat) (hl:l.Nodup) (hH:pickL s.H l=H'):EntS G s ⟨s.env,s.b,H'⟩:=EntS.hrel fun h=>h.pick l hl hH
theorem unpackRelSt {i g:Nat} (hH:s.H[i]?=some (objE g gd fun x=>e0 x::tl x)) {St:Nat→Prop} {a:Act} {w:World} (hr:RelSt G St s a w):∃ x,gd x=g∧RelSt G St ⟨s.env,s.b,s.H.set i (e0 x)++tl x⟩ a w:=by
 obtain ⟨x,hx,h2⟩:=hr.hp.unpack hH
 exact ⟨x,hx,hr.df,hr.sz,hr.env,hr.un,hr.s1,hr.s2,hr.s3,h2,hr.sn,hr.sg⟩
theorem unpackRel {i g:Nat} (hH:s.H[i]?=some (objE g gd fun x=>e0 x::tl x)) {a:Act} {w:World} (h:Rel G s a w):∃ x,gd x=g∧Rel G ⟨s.env,s.b,s.H.set i (e0 x)++tl x⟩ a w:=by
 obtain ⟨St,hr⟩:=h
 obtain ⟨x,hx,h2⟩:=unpackRelSt hH hr
 exact ⟨x,hx,St,h2⟩
theorem code_unpack (i:Nat) {g:Nat} (hH:s.H[i]?=some (objE g gd fun x=>e0 x::tl x)) (h:∀ x,gd x=g→ACode P G c ⟨s.env,s.b,s.H.set i (e0 x)++tl x⟩ R):ACode P G c s R:=fun a w hr Q hQ=>by
 obtain ⟨x,hx,h2⟩:=unpackRel hH hr
 exact h x hx a w h2 Q hQ
end
end
section
open Go.RowKit
def iterOP (l:ByteArray) (pos:Nat):OP where
 p al St w g F:=(∀ b,F b↔b=g)∧w.heap[g]?=some (.stringIter l pos)
 st:=fun he hs hF ⟨h1,h2⟩=>⟨h1,(hF _ ((h1 _).2 rfl)).trans h2⟩
section
variable {P:Program} {G:Gh} {ops:Array Oper} {o:Oper} {s:AS} {r:List Oper} {K:AS→Prop} {t u:TypeId} {x y:Operand} {env:List (Nat×CV)} {b0:Nat→CV} {H:List (Option Nat×Res)}
theorem under_below {w w':World} (h:Below w.heap.size w w'):Under (fun _=>False) w w':=(Under.refl _ w).then h
theorem RelSt.freshObj {St:Nat→Prop} {a:Act} {w w':World} {g:Nat} {p:OP} (h:RelSt G St s a w) (hb:Below w.heap.size w w') (h1:w.heap.size≤g) (h2:g<w'.heap.size) (hp:p.p G.al St w' g (fun b=>b=g)):RelSt G St ⟨s.env,s.b,s.H++[(some g,.obj p)]⟩ a w':=by
 refine h.after (under_below hb) (fun _ h=>h) (fun b h=>.inl h) (fun b hs=>Nat.lt_of_lt_of_le (h.s3 b hs) hb.size) ⟨fun i b=>i=0∧b=g,fun i q r hi=>?_,fun i j b hi hj=>by omega,fun i b hi=>?_,fun i hi b hb=>by simp at hi;omega⟩
 ·match i,hi with
  | 0,hi =>
   simp at hi
   obtain ⟨rfl,rfl⟩:=hi
   have e:(fun b=>(0:Nat)=0∧b=g)=fun b=>b=g:=funext fun b=>by simp
   show p.p G.al St w' g (fun b=>(0:Nat)=0∧b=g)
   rw [e]
   exact hp
  | i+1,hi=>simp at hi
 ·obtain ⟨_,rfl⟩:=hi
  exact ⟨h2,fun hs=>by have:=h.s3 _ hs;omega,.inl h1⟩
theorem RelSt.turnObj {St:Nat→Prop} {a:Act} {w w':World} {i g:Nat} {p p':OP} (h:RelSt G St s a w) (hH:s.H[i]?=some (some g,.obj p)) (hF:∀ F,p.p G.al St w g F→(∀ b,F b↔b=g)) (hno:∀ cur t z,w.heap[g]?≠some (.cells cur t z))
  (ho:w'.os=w.os) (ht:w'.tape=w.tape) (hout:w'.output=w.output) (hsz:w'.heap.size=w.heap.size) (hold:∀ b,b≠g→w'.heap[b]?=w.heap[b]?) (hp':p'.p G.al St w' g (fun b=>b=g)):RelSt G St ⟨s.env,s.b,s.H.set i (some g,.obj p')⟩ a w':=by
 obtain ⟨fp,hp⟩:=h.hp
 have hlt:i<s.H.length:=(List.getElem?_eq_some_iff.1 hH).1
 have hrep:p.p G.al St w g (fp i):=hp.rep i (some g) _ hH
 have hfi:=hF _ hrep
 have hg:fp i g:=(hfi g).2 rfl
 obtain ⟨hg1,hg2,hg3⟩:=hp.own i g hg
 have he:Evo St w w':=⟨fun b cu ct cz hb hcu=>(hold b (fun e=>hg2 (e ▸ hb))).trans hcu,fun b cu t z hb=>⟨cu,z,(hold b (fun e=>hno cu t z (e ▸ hb))).trans hb,rfl⟩⟩
 refine ⟨h.df.keep (fun _ h=>h) (fun b hb=>hold b (fun e=>hg2 (e ▸ hb))),h.sz,fun d=>RepC.evo he (fun _ x=>x) _ _ (h.env d),⟨ho.trans h.un.os,ht.trans h.un.tape,hout.trans h.un.output,by rw [hsz];exact h.un.size,fun k hk hFk=>?_,fun b cu t z hb=>?_⟩,h.s1,h.s2,fun b hb=>by rw [hsz];exact h.s3 b hb,?_,?_,h.sg⟩
 ·refine (hold k (fun e=>?_)).trans (h.un.block k hk hFk)
  subst e
  rcases hg3 with h1|h1
  ·omega
  ·exact hFk h1
 ·obtain ⟨cur',z',h1,h2⟩:=h.un.sh b cu t z hb
  obtain ⟨cur2,z2,h3,h4⟩:=he.sh b cur' t z' h1
  exact ⟨cur2,z2,h3,h4.trans h2⟩
 ·refine ⟨fp,fun j q r hj=>?_,hp.dis,fun j b hb=>by rw [hsz];exact hp.own j b hb,fun j hj=>hp.out j (by simpa using hj)⟩
  by_cases e:j=i
  ·subst e
   simp [hlt] at hj
   obtain ⟨rfl,rfl⟩:=hj
   have e2:fp j=fun b=>b=g:=funext fun b=>propext (hfi b)
   show p'.p G.al St w' g (fp j)
   rw [e2]
   exact hp'
  ·rw [List.getElem?_set_ne (Ne.symm e)] at hj
   exact Res.rep_evo he (fun _ x=>x) (fun b hFb=>hold b (fun e2=>e (hp.dis j i b hFb (e2 ▸ hg)))) (hp.rep j q r hj)
 ·exact SentL.keep h.sn (fun q hq=>hold q (fun e=>hg2 (e ▸ h.sg.1 q hq))) (fun q hq=>hold _ (fun e=>hg2 (e ▸ h.sg.2 q hq)))

theorem e_range {l:ByteArray} {d:Nat} (ho:o.op=.range t x) (hx:(⟨env,b0,H⟩:AS).eval x=.c (.string l)) (h1:P.underlying t=some .string) (hd:o.dst=some d) (hN:Nat.blt d G.N=true)
  (hK:∀ g,K ⟨(d,.op H.length (some g) 0)::env,b0,H++[(some g,.obj (iterOP l 0))]⟩):AEx P G o ⟨env,b0,H⟩ K:=fun St a w hr Q=>by
 have hrun:(execOp a.eval o).run P w=.ok (.value (.pointer (some ⟨w.heap.size,0,none⟩))) (w.iter l 0):=by
  simp only [execOp,ho,evC hr hx]
  exact vOk (run_range_string w t l h1)
 unfold Oper.wp
 rw [hrun]
 have hb:Below w.heap.size w (w.iter l 0):=below_alloc w _
 refine ⟨hb,St,fun _ h=>h,_,hK w.heap.size,?_⟩
 have h2:=hr.freshObj (g:=w.heap.size) (p:=iterOP l 0) hb (Nat.le_refl _) (by show _<(w.heap.push _).size;simp) ⟨fun b=>Iff.rfl,World.iter_heap w l 0⟩
 have:=h2.put (dst:=o.dst) (v:=.op H.length (some w.heap.size) 0) (x:=.pointer (some ⟨w.heap.size,0,none⟩)) (by intro d' hd';rw [hd] at hd';cases hd';exact Nat.le_of_ble_eq_true hN) ⟨_,rfl,rfl⟩
 rw [hd] at this ⊢
 exact this
theorem run_next_any {l:ByteArray} {pos g:Nat} {w:World} (ty:TypeId) (hg:w.heap[g]?=some (.stringIter l pos)) (h:pos<l.size) :
  (Instr.next (.pointer (some ⟨g,0,none⟩)) true ty).run P w=.ok (.tuple #[.bool true,.int .i64 pos,.int .i32 (Utf8.decode l pos).1]) { w with heap:=w.heap.setIfInBounds g (.stringIter l (pos+(Utf8.decode l pos).2)) }:=by
 simp [Instr.next,getObj,setObj,Sem.run,hg,h,goInt]
theorem run_next_over {l:ByteArray} {pos g:Nat} {w:World} (ty:TypeId) (hg:w.heap[g]?=some (.stringIter l pos)) (h:¬ pos<l.size) :
  (Instr.next (.pointer (some ⟨g,0,none⟩)) true ty).run P w=.ok (.tuple #[.bool false]) w:=by
 simp [Instr.next,getObj,Sem.run,hg,h]
theorem m_next {l:ByteArray} {pos i g d:Nat} (ho:o.op=.next x true) (hx:(⟨env,b0,H⟩:AS).eval x=.op i (some g) 0) (hH:H[i]?=some (some g,.obj (iterOP l pos))) (hd:o.dst=some d) (hN:Nat.blt d G.N=true)
  (h1:pos<l.size→K ⟨(d,.tup 3 (fl [.c (.bool true),.c (.int .i64 (pos:Nat)),.c (.int .i32 ((Utf8.decode l pos).1:Nat))]))::env,b0,H.set i (some g,.obj (iterOP l (pos+(Utf8.decode l pos).2)))⟩)
  (h2:¬ pos<l.size→K ⟨(d,.tup 1 (fl [.c (.bool false)]))::env,b0,H⟩):AMd P G o ⟨env,b0,H⟩ K:=fun St a w hr Q=>by
 obtain ⟨b,hb,e0⟩:=evR hr hx
 cases hb
 obtain ⟨fp,hp⟩:=id hr.hp
 obtain ⟨hF,hg⟩:=hp.rep i _ _ hH
 have dlt:∀ d',o.dst=some d'→d'<G.N:=by intro d' hd';rw [hd] at hd';cases hd';exact Nat.le_of_ble_eq_true hN
 by_cases h:pos<l.size
 ·have hrun:(execOp a.eval o).run P w=.ok (.value (.tuple #[.bool true,.int .i64 pos,.int .i32 (Utf8.decode l pos).1])) { w with heap:=w.heap.setIfInBounds g (.stringIter l (pos+(Utf8.decode l pos).2)) }:=by
   simp only [execOp,ho,e0]
   exact vOk (run_next_any _ hg h)
  unfold Oper.wp
  rw [hrun]
  refine ⟨fun b hb=>?_,St,fun _ h=>h,_,h1 h,?_⟩
  ·have hne:b≠g:=fun e=>(hp.own i g ((hF g).2 rfl)).2.1 (e ▸ hb)
   simp [Array.getElem?_setIfInBounds_ne (Ne.symm hne)]
  have hlt:g<w.heap.size:=(Array.getElem?_eq_some_iff.1 hg).1
  have h3:=hr.turnObj (p:=iterOP l pos) (p':=iterOP l (pos+(Utf8.decode l pos).2)) (w':={ w with heap:=w.heap.setIfInBounds g (.stringIter l (pos+(Utf8.decode l pos).2)) }) hH (fun F h=>h.1) (fun cur t z he=>by rw [hg] at he;cases he) rfl rfl rfl (by simp) (fun b hb=>by simp [Array.getElem?_setIfInBounds_ne (Ne.symm hb)]) ⟨fun b=>Iff.rfl,by simp [hlt]⟩
  have:=h3.put (dst:=o.dst) (v:=.tup 3 (fl [.c (.bool true),.c (.int .i64 (pos:Nat)),.c (.int .i32 ((Utf8.decode l pos).1:Nat))])) (x:=.tuple #[.bool true,.int .i64 pos,.int .i32 (Utf8.decode l pos).1]) dlt ⟨_,rfl,rfl,fun j hj=>match j,hj with|0,_=>rfl|1,_=>rfl|2,_=>rfl⟩
  rw [hd] at this ⊢
  exact this
 ·have hrun:(execOp a.eval o).run P w=.ok (.value (.tuple #[.bool false])) w:=by
   simp only [execOp,ho,e0]
   exact vOk (run_next_over _ hg h)
  unfold Oper.wp
  rw [hrun]
  refine ⟨KeepS.refl _ _,St,fun _ h=>h,_,h2 h,?_⟩
  have:=hr.put (dst:=o.dst) (v:=.tup 1 (fl [.c (.bool false)])) (x:=.tuple #[.bool false]) dlt ⟨_,rfl,rfl,fun j hj=>match j,hj with|0,_=>rfl⟩
  rw [hd] at this ⊢
  exact this
end
end
section
open Go.RowKit
def strC (l:List UInt8):CV:=.c (.string ⟨l.toArray⟩)
theorem ba_inj {a b:List UInt8}:((⟨a.toArray⟩:ByteArray)=⟨b.toArray⟩)↔a=b:=by
 constructor
 ·intro h
  have:=congrArg (fun x:ByteArray=>x.data.toList) h
  simpa using this
 ·rintro rfl;rfl
theorem ba_list (s:ByteArray):∃ l:List UInt8,s=⟨l.toArray⟩:=⟨s.data.toList,by cases s;simp⟩
theorem ba_toList (a:List UInt8):(⟨a.toArray⟩:ByteArray).toList=a:=by rw [Go.ByteArray.toList_eq]
theorem ba_app (l r:List UInt8):(⟨l.toArray⟩++⟨r.toArray⟩:ByteArray)=⟨(l++r).toArray⟩:=by
 apply ByteArray.ext
 simp
theorem ba_ext (l:List UInt8) (i j:Nat):(⟨l.toArray⟩:ByteArray).extract i j=⟨((l.take j).drop i).toArray⟩:=by
 apply ByteArray.ext
 simp [List.drop_take]
section
variable {P:Program} {G:Gh} {ops:Array Oper} {o:Oper} {s:AS} {r:List Oper} {K:AS→Prop} {t u:TypeId} {x y:Operand} {env:List (Nat×CV)} {b0:Nat→CV} {H:List (Option Nat×Res)} {k:IntKind} {a b:List UInt8}
theorem rd_eqL (ho:o.op=.binOp .eql t x y u) (hx:s.eval x=strC a) (hy:s.eval y=strC b):ARd P G o s (.c (.bool (decide (a=b)))):=by
 have:=rd_eqS (P:=P) (G:=G) ho hx hy
 rwa [show decide ((⟨a.toArray⟩:ByteArray)=⟨b.toArray⟩)=decide (a=b) from decide_eq_decide.2 ba_inj] at this
theorem rd_neL (ho:o.op=.binOp .neq t x y u) (hx:s.eval x=strC a) (hy:s.eval y=strC b):ARd P G o s (.c (.bool (decide (a≠b)))):=by
 have:=rd_neS (P:=P) (G:=G) ho hx hy
 rwa [show decide ((⟨a.toArray⟩:ByteArray)≠⟨b.toArray⟩)=decide (a≠b) from decide_eq_decide.2 (not_congr ba_inj)] at this
theorem rd_ltL (ho:o.op=.binOp .lss t x y u) (hx:s.eval x=strC a) (hy:s.eval y=strC b):ARd P G o s (.c (.bool (Op.bytesLess a b))):=by
 have:=rd_ltS (P:=P) (G:=G) ho hx hy
 rwa [ba_toList,ba_toList] at this
theorem rd_gtL (ho:o.op=.binOp .gtr t x y u) (hx:s.eval x=strC a) (hy:s.eval y=strC b):ARd P G o s (.c (.bool (!(Op.bytesLess a b || a == b)))):=by
 have:=rd_gtS (P:=P) (G:=G) ho hx hy
 rwa [ba_toList,ba_toList] at this
theorem rd_addL (ho:o.op=.binOp .add t x y u) (hx:s.eval x=strC a) (hy:s.eval y=strC b) (hl:a.length+b.length≤9223372036854775807):ARd P G o s (strC (a++b)):=by
 have:=rd_addS (P:=P) (G:=G) ho hx hy hl
 rwa [ba_app] at this
theorem rd_indexL {i:Nat} {z:Int} (ho:o.op=.index t x y) (hx:s.eval x=strC a) (hy:s.eval y=.c (.int k z)) (h1:P.underlying t=some .string) (hz:z=(i:Int)) (hi:i<a.length):ARd P G o s (byF a i) :=
 rd_indexS (l:=⟨a.toArray⟩) ho hx hy h1 hz hi
theorem rd_lenL (ho:o.op=.call ⟨.builtin .len,#[x],#[t]⟩) (hx:s.eval x=strC a) (h1:P.underlying t=some .string):ARd P G o s (.c (.int .i64 (a.length:Nat))):=rd_lenS ho hx h1
theorem rd_sliceL {l v:Nat} {lo hi:Option Operand} (ho:o.op=.slice t x lo hi none) (hx:s.eval x=strC a) (h1:P.underlying t=some .string)
  (hl:Bd s 0 lo l) (hu:Bd s a.length hi v) (hlv:l≤v) (hvn:v≤a.length):ARd P G o s (strC ((a.take v).drop l)):=by
 have:=rd_sliceS (P:=P) (G:=G) (b:=⟨a.toArray⟩) ho hx h1 hl hu hlv hvn
 rwa [ba_ext] at this
theorem rd_sliceLF {l:Nat} {lo:Operand} {z:Int} (ho:o.op=.slice t x (some lo) none none) (hx:s.eval x=strC a) (h1:P.underlying t=some .string) (hl:s.eval lo=.c (.int .i64 z)) (hz:z=(l:Int)) (hvn:l≤a.length):ARd P G o s (strC (a.drop l)):=by
 have:=rd_sliceL (P:=P) (G:=G) ho hx h1 (bd_some hl hz) (bd_none _ _) hvn (Nat.le_refl _)
 rwa [List.take_length] at this
theorem rd_sliceLT {v:Nat} {hi:Operand} {z:Int} (ho:o.op=.slice t x none (some hi) none) (hx:s.eval x=strC a) (h1:P.underlying t=some .string) (hl:s.eval hi=.c (.int .i64 z)) (hz:z=(v:Int)) (hvn:v≤a.length):ARd P G o s (strC (a.take v)):=by
 have:=rd_sliceL (P:=P) (G:=G) ho hx h1 (bd_none _ _) (bd_some hl hz) (Nat.zero_le _) hvn
 rwa [List.drop_zero] at this
theorem rd_convBL {e:TypeId} (ho:o.op=.convert t u x) (hx:s.eval x=bsC a) (h1:P.underlying t=some (.slice e)) (h2:P.underlying e=some (.int .u8)) (h3:P.underlying u=some .string):ARd P G o s (strC a):=rd_convBS ho hx h1 h2 h3
theorem e_convLB {e:TypeId} {d:Nat} (ho:o.op=.convert t u x) (hx:(⟨env,b0,H⟩:AS).eval x=strC a) (h1:P.underlying t=some .string) (h2:P.underlying u=some (.slice e)) (h3:P.underlying e=some (.int .u8)) (hl:a.length≤9223372036854775807) (hd:o.dst=some d) (hN:Nat.blt d G.N=true)
  (hK:K ⟨(d,bsC a)::env,b0,H⟩):AEx P G o ⟨env,b0,H⟩ K:=by
 refine e_convSB ho hx h1 h2 h3 hl hd hN ?_
 simpa using hK
end
theorem CEnt.errN {m n:Nat} (h:n=m):CEnt (.err m) (.err n):=by subst h;exact cZ
theorem CEnt.strL {a b:List UInt8} (h:a=b):CEnt (strC a) (strC b):=by subst h;exact cZ
end
section
open Go.RowKit
section
variable {P:Program} {G:Gh} {ops:Array Oper} {o:Oper} {s:AS} {r:List Oper} {K:AS→Prop} {t u:TypeId} {x y:Operand} {env:List (Nat×CV)} {b0:Nat→CV} {H:List (Option Nat×Res)}
end
end
section
open Go.RowKit
def recOP (r:Loop):OP where
 p al St w g F:=(∀ b,F b↔b=g)∧w.heap[g]?=some (.loop r)
 st:=fun he hs hF ⟨h1,h2⟩=>⟨h1,(hF _ ((h1 _).2 rfl)).trans h2⟩
structure RdC where
 N:Nat
 env:List (Nat×CV)
 b:Nat→CV
 ps:Array Tmp
 assign:Code
 body:Code
def mkRec (fn:FuncId) (tmps:Array Value) (L:RdC) (D:Nat) (sp:LoopState×Option Code):Loop:={ state:=sp.1,pending:=sp.2,fn,tmps,params:=L.ps,assign:=L.assign,body:=L.body,defers:=D }
def rndOP {π:Type} (L:RdC) (sp:π→LoopState×Option Code) (HB:π→List (Option Nat×Res)) (φ:π→Prop):OP where
 p al St w g F:=∃ (x:π) (fn:FuncId) (tmps:Array Value) (D:Nat),φ x∧tmps.size=L.N∧(∀ d,RepC al St w (look L.env L.b d) (tmps.getD d undef))∧∃ fp,Foot al St w F (HB x++[(some g,.obj (recOP (mkRec fn tmps L D (sp x))))]) fp
 st:=fun he hs hF ⟨x,fn,tmps,D,h1,h2,h3,fp,h⟩=>⟨x,fn,tmps,D,h1,h2,fun d=>RepC.evo he hs _ _ (h3 d),fp,fun i g r hi=>Res.rep_evo he hs (fun b hb=>hF b ((h.all b).2 ⟨i,hb⟩)) (h.rep i g r hi),h.dis,h.out,h.all⟩

def ACY (gs:List Nat) (P:Program) (l:Nat) (H:List (Option Nat×Res)) (args:List CV) (Q:CV→List (Option Nat×Res)→Prop):Prop :=
 ∀ al w St F0 (vals:Array Value),Entry gs al St F0 H w→vals.size=args.length→(∀ i,RepC al St w (fl args i) (vals.getD i undef)) →
  YieldAt (frd none) 0 P l vals w fun e w'=>∃ v r H' St',e=.returned v∧Q r H'∧RepC al St' w' r v∧Under F0 w w'∧(∀ b,St b→St' b)∧(∀ b,St' b→St b∨w.heap.size≤b∨F0 b)∧(∀ b,St' b→b<w'.heap.size)∧HRel al St' w' w.heap.size F0 H'
def YQ (l:Nat) (J' Jx:OP):CV→List (Option Nat×Res)→Prop:=fun r H'=>(r=.c (.bool true)∧H'=[(some l,.obj J')])∨(r=.c (.bool false)∧H'=[(some l,.obj Jx)])

section
variable {P:Program} {G:Gh} {ops:Array Oper} {o:Oper} {s:AS} {K:AS→Prop} {env:List (Nat×CV)} {b0:Nat→CV} {H:List (Option Nat×Res)} {R:Exit→AS→Prop}

def AMdI (P:Program) (G:Gh) (o:Oper) (s:AS) (K:AS→Prop):Prop:=∀ a w,Rel G s a w→∀ Q,o.wpIn (frd G.rd) 0 P a w (fun a' w'=>∃ s',K s'∧Rel G s' a' w') Q
theorem seq_mdI {r:List Oper} (hw:Wanted G ops o s true) (hy:G.yl=true) (h:AMdI P G o s (fun s'=>ASeq P G ops r s' K)):ASeq P G ops (o::r) s K:=fun a w hr Q hQ=>by
 unfold wpSeq
 obtain ⟨St,hs⟩:=id hr
 rw [if_pos (hw St a w hs)]
 exact .inr ⟨hy,Oper.wpIn_mono (fun a' w' ⟨s',h1,h2⟩=>h1 a' w' h2 Q hQ) (h a w hr Q)⟩

theorem exec_yield {v:Operand} {l:Nat} {xs:Array Operand} {ats:Array TypeId} (ho:o.op=.call ⟨.value v,xs,ats⟩) (a:Act) (hv:a.eval v=.func (.yield l) #[] #[]) {w:World} {x:Next} (h:(Instr.yield l (xs.map a.eval)).run P w=.ok x w) :
  (execOp a.eval o).run P w=.ok x w:=by
 simp [execOp,ho,resolve,hv,Deferred.ofValue,invoke,h]

theorem m_callY {v:Operand} {l:Nat} {xs:Array Operand} {ats:Array TypeId} {args:List CV} {Q:CV→List (Option Nat×Res)→Prop} {i d:Nat} {x0:Option Nat×Res} (ho:o.op=.call ⟨.value v,xs,ats⟩) (hv:(⟨env,b0,H⟩:AS).eval v=.c (.func (.yield l) #[] #[])) (hi:H[i]?=some x0) (hA:ACY G.gs P l [x0] args Q) (he:SEL G ⟨env,b0,H⟩ xs.toList args) (hd:o.dst=some d) (hN:Nat.blt d G.N=true)
  (hK:∀ r H',Q r H'→∃ x r',H'=[x]∧CEnt r r'∧K ⟨(d,r')::env,b0,H.set i x⟩):AMdI P G o ⟨env,b0,H⟩ K:=fun a w ⟨St,hr⟩ Q'=>by
 obtain ⟨h1,h2⟩:=args_se he hr
 obtain ⟨fp,hp⟩:=hr.hp
 have hlt:i<H.length:=(List.getElem?_eq_some_iff.1 hi).1
 obtain ⟨g0,r0⟩:=x0
 have hent:Entry G.gs G.al St (fp i) [(g0,r0)] w:=by
  refine ⟨hr.s3,hr.sn,hr.sg,⟨fun j b=>j=0∧fp i b,fun j g r hj=>?_,fun j l b hj hl=>by omega,fun j b hj=>⟨(hp.own i b hj.2).1,(hp.own i b hj.2).2.1,.inr hj.2⟩,fun j hj b hb=>by simp at hj;omega⟩,fun b hb=>(hp.own i b hb).2.1⟩
  match j,hj with
  | 0,hj =>
   simp at hj
   obtain ⟨rfl,rfl⟩:=hj
   have e:(fun b=>(0:Nat)=0∧fp i b)=fp i:=funext fun b=>by simp
   show r0.rep G.al St w (fun b=>(0:Nat)=0∧fp i b) g0
   rw [e]
   exact hp.rep i g0 r0 hi
  | j+1,hj=>simp at hj
 obtain ⟨fn,tmps,assign,body,hy,hR⟩:=hA G.al w St _ _ hent h1 h2
 refine ⟨fun f _=>trivial,?_⟩
 rw [Oper.semAt_eq _ _ _ (by rw [ho];intro c e;cases e),exec_yield ho a (evC hr hv) hy]
 refine ⟨fun e=>(by cases e),?_⟩
 refine RoundIn.mono (F:=frd none) (n:=0) hR ?_
 rintro e w' ⟨v,r,H',St',rfl,hq,hv,hu,h3,h4,h5,h6⟩
 obtain ⟨x,r',rfl,hce,hk⟩:=hK r H' hq
 refine ⟨_,hk,St',?_⟩
 have h7:=(hr.afterH hp hlt hu h3 h4 h5 h6).put (dst:=o.dst) (v:=r') (x:=v) (by intro d' hd';rw [hd] at hd';cases hd';exact Nat.le_of_ble_eq_true hN) (hce _ _ _ _ hv)
 rw [hd] at h7 ⊢
 exact h7

def penv:List Tmp→List CV→List (Nat×CV)→List (Nat×CV)
 | p::ps,c::cs,env=>penv ps cs ((p,c)::env)
 | _,_,env=>env
theorem penv_rep {al:List Addr} {St:Nat→Prop} {w:World} {b:Nat→CV} {N:Nat}:∀ (ps:List Tmp) (cs:List CV) (vs:List Value) (env:List (Nat×CV)) (tmps:Array Value),tmps.size=N→(∀ d,RepC al St w (look env b d) (tmps.getD d undef))→ps.length=cs.length→vs.length=cs.length→(∀ p ∈ ps,p<N)→(∀ i,i<cs.length→RepC al St w (fl cs i) (vs.getD i undef)) →
  ((ps.zip vs).foldl (fun t (p,v)=>t.setIfInBounds p v) tmps).size=N∧∀ d,RepC al St w (look (penv ps cs env) b d) (((ps.zip vs).foldl (fun t (p,v)=>t.setIfInBounds p v) tmps).getD d undef)
 | [],cs,vs,env,tmps,h1,h2,_,_,_,_=>⟨by simpa using h1,by simpa [penv] using h2⟩
 | p::ps,[],vs,env,tmps,_,_,h3,_,_,_=>by simp at h3
 | p::ps,c::cs,[],env,tmps,_,_,_,h4,_,_=>by simp at h4
 | p::ps,c::cs,v::vs,env,tmps,h1,h2,h3,h4,h5,h6=>by
  simp only [List.zip_cons_cons,List.foldl_cons,penv]
  refine penv_rep ps cs vs _ _ (by simpa using h1) (fun d=>?_) (by simpa using h3) (by simpa using h4) (fun q hq=>h5 q (List.mem_cons_of_mem _ hq)) (fun i hi=>?_)
  ·by_cases hpd:p=d
   ·subst hpd
    rw [look_same]
    have h0:=h6 0 (by simp)
    have hlt:p<tmps.size:=by rw [h1];exact h5 p (List.mem_cons_self ..)
    simpa [hlt,fl] using h0
   ·rw [look_other _ _ _ hpd]
    have:=h2 d
    simpa [Array.getElem?_setIfInBounds_ne hpd] using this
  ·have:=h6 (i+1) (by simp;omega)
   simpa [fl] using this

theorem set_last {α:Type} (l:List α) (x y:α):(l++[x]).set l.length y=l++[y]:=by
 rw [List.set_append_right _ _ (Nat.le_refl _)];simp
theorem get_last {α:Type} (l:List α) (x:α):(l++[x])[l.length]?=some x:=by simp

theorem HRel.packR {al:List Addr} {St:Nat→Prop} {w:World} {base:Nat} {F0:Nat→Prop} {π:Type} {L:RdC} {sp:π→LoopState×Option Code} {HB:π→List (Option Nat×Res)} {φ:π→Prop} {l:Nat} {x:π} {fn:FuncId} {tmps:Array Value} {D:Nat} (hx:φ x) (hs:tmps.size=L.N) (he:∀ d,RepC al St w (look L.env L.b d) (tmps.getD d undef))
  (h:HRel al St w base F0 (HB x++[(some l,.obj (recOP (mkRec fn tmps L D (sp x))))])):HRel al St w base F0 [(some l,.obj (rndOP L sp HB φ))]:=by
 obtain ⟨fp,hp⟩:=h
 refine ⟨fun j b=>j=0∧∃ i,fp i b,fun j g r hj=>?_,fun i j b hi hj=>by omega,fun i b hi=>?_,fun i hi b hb=>by simp at hi;omega⟩
 ·match j,hj with
  | 0,hj =>
   simp at hj
   obtain ⟨rfl,rfl⟩:=hj
   exact ⟨x,fn,tmps,D,hx,hs,he,fp,fun i g r hi=>hp.rep i g r hi,hp.dis,hp.out,fun b=>by simp⟩
  | j+1,hj=>simp at hj
 ·obtain ⟨_,k,hk⟩:=hi
  exact hp.own k b hk

def roundR {π q:Type} (l:Nat) (R1:OP) (HB:π→List (Option Nat×Res)) (φ':π→Prop) (HX:q→List (Option Nat×Res)) (χ:Code→q→Prop):Exit→AS→Prop
 | .normal,s=>∃ x,φ' x∧(HB x).length+1≤s.H.length∧HEnt (s.H.take ((HB x).length+1)) (HB x++[(some l,.obj R1)])
 | .ret,s=>∃ x,χ .ret x∧(HX x).length+1≤s.H.length∧HEnt (s.H.take ((HX x).length+1)) (HX x++[(some l,.obj R1)])
 | .exit id,s=>∃ x,χ (.exit id) x∧(HX x).length+1≤s.H.length∧HEnt (s.H.take ((HX x).length+1)) (HX x++[(some l,.obj R1)])
 | _,_=>False
def assignR (P:Program) (G:Gh) (body:Code) (B:List (Option Nat×Res)) (l:Nat) (R0 R1:OP) (RE:Exit→AS→Prop):Exit→AS→Prop
 | .normal,s=>∃ env b,s=⟨env,b,B++[(some l,.obj R0)]⟩∧ACode P G body ⟨env,b,B++[(some l,.obj R1)]⟩ RE
 | _,_=>False

theorem RelSt.take_h {St:Nat→Prop} {a:Act} {w:World} {B:List (Option Nat×Res)} (h:RelSt G St s a w) (hl:B.length≤s.H.length) (he:HEnt (s.H.take B.length) B):RelSt G St ⟨s.env,s.b,B⟩ a w:=by
 have h1:=h.hp.pick (List.range B.length) (range_nodup _) (pickL_range _ _ hl)
 exact ⟨h.df,h.sz,h.env,h.un,h.s1,h.s2,h.s3,h1.hent he,h.sn,h.sg⟩

theorem RelSt.turnRec {St:Nat→Prop} {a:Act} {w:World} {B:List (Option Nat×Res)} {l:Nat} {r r':Loop} (h:RelSt G St ⟨env,b0,B++[(some l,.obj (recOP r))]⟩ a w) :
  w.heap[l]?=some (.loop r)∧RelSt G St ⟨env,b0,B++[(some l,.obj (recOP r'))]⟩ a (w.putObj l (.loop r')):=by
 obtain ⟨fp,hp⟩:=id h.hp
 obtain ⟨hF,hg⟩:=hp.rep B.length (some l) _ (get_last _ _)
 have hlt:l<w.heap.size:=(Array.getElem?_eq_some_iff.1 hg).1
 refine ⟨hg,?_⟩
 have:=h.turnObj (i:=B.length) (g:=l) (p:=recOP r) (p':=recOP r') (w':=w.putObj l (.loop r')) (get_last _ _) (fun F h=>h.1) (fun cur t z he=>by rw [hg] at he;cases he) rfl rfl rfl (by simp) (fun b hb=>World.putObj_heap_other hb) ⟨fun b=>Iff.rfl,World.putObj_heap_same hlt⟩
 rw [set_last] at this
 exact this

theorem round_post {π:Type} {gs:List Nat} {al:List Addr} {l:Nat} {w W:World} {F0 St0 St:Nat→Prop} {N:Nat} {L:RdC} {sp:π→LoopState×Option Code} {HB:π→List (Option Nat×Res)} {φ:π→Prop} {env0:List (Nat×CV)} {b:Nat→CV} {x:π} {a:Act} {fn:FuncId} {tmps:Array Value} {D:Nat} {jump:Option Code} {Q:CV→List (Option Nat×Res)→Prop}
  (hent:∀ b,F0 b→¬ St0 b) (h3:∀ b,St0 b→b<w.heap.size) (hx:φ x) (hs:tmps.size=L.N) (henv:∀ d,RepC al St0 w (look L.env L.b d) (tmps.getD d undef))
  (hsp:sp x=(if jump.isNone then .ready else .done,jump))
  (hr:RelSt ⟨gs,al,w,F0,St0,N,some l,false⟩ St ⟨env0,b,HB x++[(some l,.obj (recOP { mkRec fn tmps L D (.ready,none) with state:=.busy }))]⟩ a W) (hQ:Q (.c (.bool jump.isNone)) [(some l,.obj (rndOP L sp HB φ))]) :
  ∃ v w',(Instr.endRound l jump).run P W=.ok v w'∧∃ v' r H' St',Ending.returned v=.returned v'∧Q r H'∧RepC al St' w' r v'∧Under F0 w w'∧(∀ b,St0 b→St' b)∧(∀ b,St' b→St0 b∨w.heap.size≤b∨F0 b)∧(∀ b,St' b→b<w'.heap.size)∧HRel al St' w' w.heap.size F0 H':=by
 obtain ⟨hg,hr2⟩:=hr.turnRec (r':=mkRec fn tmps L D (sp x))
 refine ⟨_,_,run_endRound jump hg,.bool jump.isNone,_,_,St,rfl,hQ,rfl,?_⟩
 have e:({ { mkRec fn tmps L D (.ready,none) with state:=LoopState.busy } with state:=if jump.isNone then LoopState.ready else LoopState.done,pending:=jump }:Loop)=mkRec fn tmps L D (sp x):=by rw [hsp];rfl
 rw [e]
 have hev:Evo St0 w (W.putObj l (.loop (mkRec fn tmps L D (sp x)))):=⟨fun b cur t z hb hc=>(hr2.un.block b (h3 b hb) (fun hf=>hent b hf hb)).trans hc,hr2.un.sh⟩
 exact ⟨hr2.un,hr2.s1,hr2.s2,hr2.s3,HRel.packR hx hs (fun d=>RepC.evo hev hr2.s1 _ _ (henv d)) hr2.hp⟩

theorem acy_round {gs:List Nat} {π q:Type} {l:Nat} {L:RdC} {HB:π→List (Option Nat×Res)} {φ φ':π→Prop} {HX:q→List (Option Nat×Res)} {χ:Code→q→Prop} {args:List CV} (hn:L.ps.toList.length=args.length) (hps:∀ p ∈ L.ps.toList,p<L.N)
  (hb:∀ (al:List Addr) (w0:World) (F0 St0:Nat→Prop) (R0 R1:OP) (x:π),φ x→ACode P ⟨gs,al,w0,F0,St0,L.N,some l,false⟩ L.assign ⟨penv L.ps.toList args L.env,L.b,HB x++[(some l,.obj R0)]⟩ (assignR P ⟨gs,al,w0,F0,St0,L.N,some l,false⟩ L.body (HB x) l R0 R1 (roundR l R1 HB φ' HX χ))) :
  ACY gs P l [(some l,.obj (rndOP L (fun _=>(.ready,none)) HB φ))] args (YQ l (rndOP L (fun _=>(.ready,none)) HB φ') (rndOP L (fun x:Code×q=>(.done,some x.1)) (fun x=>HX x.2) (fun x=>χ x.1 x.2))):=by
 intro al w St F0 vals he hvs hv
 obtain ⟨fp,hp⟩:=he.hp
 obtain ⟨x,fn,tmps,D,hx,hsz,henv,fq,hf⟩:=hp.rep 0 (some l) _ rfl
 obtain ⟨hFl,hg⟩:=hf.rep (HB x).length (some l) _ (get_last _ _)
 have hlen:L.ps.size=args.length:=by simpa using hn
 have hy:=run_yield (P:=P) (args:=vals) hg (by rw [hvs];exact hlen.symm)
 refine ⟨_,_,_,_,hy,roundIn_of_wpIn trivial ?_⟩
 have hpe:=penv_rep (al:=al) (St:=St) (w:=w) (b:=L.b) (N:=L.N) L.ps.toList args vals.toList L.env tmps hsz henv hn (by simpa using hvs) hps (fun i hi=>by
  have:=hv i
  simpa using this)
 have hfold:(L.ps.toList.zip vals.toList).foldl (fun t (p,v)=>t.setIfInBounds p v) tmps=((mkRec fn tmps L D (.ready,none)).params.zip vals).foldl (fun tmps (t,a)=>tmps.setIfInBounds t a) (mkRec fn tmps L D (.ready,none)).tmps:=by
  rw [← Array.foldl_toList,Array.toList_zip]
  rfl
 rw [hfold] at hpe
 have hrel:RelSt ⟨gs,al,w,F0,St,L.N,some l,false⟩ St ⟨penv L.ps.toList args L.env,L.b,HB x++[(some l,.obj (recOP (mkRec fn tmps L D (.ready,none))))]⟩ { tmps:=((mkRec fn tmps L D (.ready,none)).params.zip vals).foldl (fun tmps (t,a)=>tmps.setIfInBounds t a) (mkRec fn tmps L D (.ready,none)).tmps,defers:=[] } w :=
  ⟨DefOk.none _ _ _,hpe.1,hpe.2,Under.refl _ _,fun _ h=>h,fun _ h=>.inl h,he.s3,⟨fq,fun i g r hi=>hf.rep i g r hi,hf.dis,fun i b hi=>hp.own 0 b ((hf.all b).2 ⟨i,hi⟩),hf.out⟩,he.sn,he.sg⟩
 refine (hb al w F0 St (recOP (mkRec fn tmps L D (.ready,none))) (recOP { mkRec fn tmps L D (.ready,none) with state:=.busy }) x hx) _ _ ⟨St,hrel⟩ _ ?_
 intro e s1 a1 w1 h1 h2
 cases e with
 | normal =>
  obtain ⟨env1,b1,rfl,hbody⟩:=h1
  obtain ⟨St1,hr1⟩:=h2
  obtain ⟨hg1,hr2⟩:=hr1.turnRec (r':={ mkRec fn tmps L D (.ready,none) with state:=.busy })
  refine ⟨_,run_beginRound hg1 rfl,hbody a1 _ ⟨St1,hr2⟩ _ ?_⟩
  intro e s2 a2 w2 h3 ⟨St2,hr3⟩
  cases e with
  | normal =>
   obtain ⟨x',hx',hl',hh'⟩:=h3
   have hr4:=hr3.take_h (B:=HB x'++[(some l,.obj (recOP { mkRec fn tmps L D (.ready,none) with state:=.busy }))]) (by simpa using hl') (by simpa using hh')
   exact round_post (jump:=none) he.f0 he.s3 hx' hsz henv rfl hr4 (.inl ⟨rfl,rfl⟩)
  | ret =>
   obtain ⟨x',hx',hl',hh'⟩:=h3
   have hr4:=hr3.take_h (B:=HX x'++[(some l,.obj (recOP { mkRec fn tmps L D (.ready,none) with state:=.busy }))]) (by simpa using hl') (by simpa using hh')
   exact round_post (x:=(Code.ret,x')) (HB:=fun x:Code×q=>HX x.2) (φ:=fun x=>χ x.1 x.2) (sp:=fun x:Code×q=>(.done,some x.1)) (jump:=some .ret) he.f0 he.s3 hx' hsz henv rfl hr4 (.inr ⟨rfl,rfl⟩)
  | exit id =>
   obtain ⟨x',hx',hl',hh'⟩:=h3
   have hr4:=hr3.take_h (B:=HX x'++[(some l,.obj (recOP { mkRec fn tmps L D (.ready,none) with state:=.busy }))]) (by simpa using hl') (by simpa using hh')
   exact round_post (x:=(Code.exit id,x')) (HB:=fun x:Code×q=>HX x.2) (φ:=fun x=>χ x.1 x.2) (sp:=fun x:Code×q=>(.done,some x.1)) (jump:=some (.exit id)) he.f0 he.s3 hx' hsz henv rfl hr4 (.inr ⟨rfl,rfl⟩)
  | _=>exact h3.elim
 | _=>exact h1.elim
end
end
section
open Go.RowKit
section
variable {P:Program} {G:Gh} {s:AS} {R:Exit→AS→Prop}

def IterC (gs:List Nat) (P:Program) (f:FuncId) (HI:List (Option Nat×Res)) (capt:List CV) (m:Nat) (E:Nat→List CV):Prop :=
 ∀ (l:Nat) (J:Nat→OP) (Jx:OP),(∀ k,k<m→ACY gs P l [(some l,.obj (J k))] (E k) (YQ l (J (k+1)) Jx)) →
  AC gs P f (HI++[(some l,.obj (J 0))]) (.c (.func (.yield l) #[] #[])::capt) fun _ H'=>H'=[(some l,.obj (J m))]∨H'=[(some l,.obj Jx)]

theorem code_range {fi n:Nat} {fv:Nat→CV} {g:Operand} {ps:Array Tmp} {assign body:Code} {π q:Type} (m:Nat) (E:Nat→List CV) (HI:List (Option Nat×Res)) (HB:π→List (Option Nat×Res)) (φ:Nat→π→Prop) (HX:q→List (Option Nat×Res)) (χ:Code→q→Prop) (p0:π) (li:List Nat)
  (hrd:G.rd=none) (hg:s.eval g=.fn fi n fv) (hc:calleeB P fi=true) (hit:IterC G.gs P fi HI ((List.range n).map fv) m E) (h0:φ 0 p0) (hnd:li.Nodup) (hpick:pickL s.H li=HI++HB p0)
  (hps:∀ k,k<m→ps.toList.length=(E k).length) (hpN:(ps.toList.all fun p=>Nat.blt p G.N)=true)
  (hround:∀ k,k<m→∀ (l:Nat) (al:List Addr) (w0:World) (F0 St0:Nat→Prop) (R0 R1:OP) (x:π),φ k x→ACode P ⟨G.gs,al,w0,F0,St0,G.N,some l,false⟩ assign ⟨penv ps.toList (E k) s.env,s.b,HB x++[(some l,.obj R0)]⟩ (assignR P ⟨G.gs,al,w0,F0,St0,G.N,some l,false⟩ body (HB x) l R0 R1 (roundR l R1 HB (φ (k+1)) HX χ)))
  (hdone:∀ x,φ m x→R .normal ⟨s.env,s.b,HB x⟩) (hjump:∀ c x,χ c x→(c=.ret∧R .ret ⟨s.env,s.b,HX x⟩)∨∃ id,c=.exit id∧R (.exit id) ⟨s.env,s.b,HX x⟩):ACode P G (.rangeFunc g ps assign body) s R:=fun a w ⟨St,hr⟩ Q hQ=>by
 obtain ⟨cs,hcs,hcn,hfv⟩:=evR hr hg
 rw [hrd]
 refine wpIn_rangeFunc fun fn _=>?_
 obtain ⟨L,hL⟩:∃ L:RdC,L=⟨G.N,s.env,s.b,ps,assign,body⟩:=⟨_,rfl⟩
 obtain ⟨w1,hw1⟩:∃ w1,w1=(w.alloc (.deferred (some []))).alloc (.loop (mkRec fn a.tmps L w.heap.size (.ready,none))):=⟨_,rfl⟩
 have hb1:Below w.heap.size w w1:=by rw [hw1];exact ((Below.refl _ w).alloc (Nat.le_refl _) _).alloc (by simp) _
 have hsz1:w1.heap.size=w.heap.size+2:=by rw [hw1];simp
 have hL1:w1.heap[w.heap.size+1]?=some (.loop (mkRec fn a.tmps L w.heap.size (.ready,none))):=by
  rw [hw1];have:=World.alloc_heap_new (w.alloc (.deferred (some []))) (.loop (mkRec fn a.tmps L w.heap.size (.ready,none)));rwa [World.size_alloc] at this
 have hD1:w1.heap[w.heap.size]?=some (.deferred (some [])):=by
  rw [hw1];exact (Below.heap_alloc _ _ _ (by simp)).trans (World.alloc_heap_new w _)
 -- the blocks that are handed over
 obtain ⟨fp,hp⟩:=hr.hp.pick li hnd hpick
 have hev1:Evo St w w1:=Evo.of_below hb1 hr.s3
 let l:=w.heap.size+1
 let D:=w.heap.size
 let St1:Nat→Prop:=fun b=>St b∨b=D
 let F1:Nat→Prop:=fun b=>(∃ i,fp i b)∨b=l
 have hfl:∀ i b,fp i b→b<D:=fun i b hi=>(hp.own i b hi).1
 have hst1:∀ b,St b→St1 b:=fun _ h=>.inl h
 have hrep:∀ (i:Nat) (g:Option Nat) (r:Res),(HI++HB p0)[i]?=some (g,r)→r.rep G.al St1 w1 (fp i) g:=fun i g r hi=>Res.rep_evo hev1 hst1 (fun b hF=>hb1.block b (hp.own i b hF).1) (hp.rep i g r hi)
 have hrec:Res.rep G.al St1 w1 (fun b=>b=l) (some l) (.obj (recOP (mkRec fn a.tmps L D (.ready,none)))):=⟨fun b=>Iff.rfl,hL1⟩
 have henv1:∀ d,RepC G.al St1 w1 (look s.env s.b d) (a.tmps.getD d undef):=fun d=>RepC.evo hev1 hst1 _ _ (hr.env d)
 have hent:Entry G.gs G.al St1 F1 (HI++[(some l,.obj (rndOP L (fun _=>(.ready,none)) HB (φ 0)))]) w1:=by
  refine ⟨fun b hb=>?_,(hr.ext hb1).sn,⟨fun g hg=>.inl (hr.sg.1 g hg),fun x hx=>.inl (hr.sg.2 x hx)⟩,⟨fun i b=>(i<HI.length∧fp i b)∨(i=HI.length∧(b=l∨∃ j,HI.length≤j∧fp j b)),fun i g r hi=>?_,fun i j b hi hj=>?_,fun i b hi=>?_,fun i hi b hb=>?_⟩,fun b hb=>?_⟩
  ·rcases hb with hb|rfl
   ·exact Nat.lt_of_lt_of_le (hr.s3 b hb) hb1.size
   ·show w.heap.size<_;omega
  ·by_cases h1:i<HI.length
   ·rw [List.getElem?_append_left h1] at hi
    have e:(fun b=>(i<HI.length∧fp i b)∨(i=HI.length∧(b=l∨∃ j,HI.length≤j∧fp j b)))=fp i:=funext fun b=>propext ⟨fun h=>h.elim (fun h=>h.2) (fun h=>by omega),fun h=>.inl ⟨h1,h⟩⟩
    show r.rep G.al St1 w1 (fun b=>(i<HI.length∧fp i b)∨(i=HI.length∧(b=l∨∃ j,HI.length≤j∧fp j b))) g
    rw [e]
    exact hrep i g r (by rw [List.getElem?_append_left h1];exact hi)
   ·have h2:i=HI.length:=by
     have:=(List.getElem?_eq_some_iff.1 hi).1
     simp at this
     omega
    subst h2
    simp at hi
    obtain ⟨rfl,rfl⟩:=hi
    refine ⟨p0,fn,a.tmps,D,h0,by rw [hL];exact hr.sz,by rw [hL];exact henv1,fun j b=>if j<(HB p0).length then fp (HI.length+j) b else j=(HB p0).length∧b=l,fun j g r hj=>?_,fun i j b hi hj=>?_,fun j hj b hb=>?_,fun b=>⟨fun hb=>?_,fun ⟨j,hj⟩=>?_⟩⟩
    ·by_cases h3:j<(HB p0).length
     ·rw [List.getElem?_append_left h3] at hj
      simp only [h3,if_true]
      exact hrep _ g r (by rw [List.getElem?_append_right (by omega),Nat.add_sub_cancel_left];exact hj)
     ·have h4:j=(HB p0).length:=by
       have:=(List.getElem?_eq_some_iff.1 hj).1
       simp at this
       omega
      subst h4
      simp at hj
      obtain ⟨rfl,rfl⟩:=hj
      have e:(fun b=>if (HB p0).length<(HB p0).length then fp (HI.length+(HB p0).length) b else (HB p0).length=(HB p0).length∧b=l)=fun b=>b=l:=funext fun b=>by simp
      show Res.rep G.al St1 w1 (fun b=>if (HB p0).length<(HB p0).length then fp (HI.length+(HB p0).length) b else (HB p0).length=(HB p0).length∧b=l) _ _
      rw [e]
      exact hrec
    ·by_cases h3:i<(HB p0).length <;> by_cases h4:j<(HB p0).length <;> simp only [h3,h4,if_true,if_false] at hi hj
     ·have:=hp.dis _ _ b hi hj;omega
     ·have:=hfl _ b hi;obtain ⟨_,rfl⟩:=hj;simp only [l,D] at this;omega
     ·have:=hfl _ b hj;obtain ⟨_,rfl⟩:=hi;simp only [l,D] at this;omega
     ·omega
    ·have h3:¬ j<(HB p0).length:=by simp at hj;omega
     simp only [h3,if_false] at hb
     simp at hj;omega
    ·rcases hb with ⟨h5,_⟩|⟨_,rfl|⟨j,hj,hF⟩⟩
     ·omega
     ·exact ⟨(HB p0).length,by simp⟩
     ·refine ⟨j-HI.length,?_⟩
      have h5:j<(HI++HB p0).length:=hp.len hF
      rw [if_pos (by simp at h5;omega),show HI.length+(j-HI.length)=j by omega]
      exact hF
    ·by_cases h3:j<(HB p0).length
     ·simp only [h3,if_true] at hj
      exact .inr ⟨rfl,.inr ⟨_,by omega,hj⟩⟩
     ·simp only [h3,if_false] at hj
      exact .inr ⟨rfl,.inl hj.2⟩
  ·rcases hi with ⟨h1,h2⟩|⟨h1,h2⟩ <;> rcases hj with ⟨h3,h4⟩|⟨h3,h4⟩
   ·exact hp.dis i j b h2 h4
   ·rcases h4 with rfl|⟨k,hk,h4⟩
    ·have:=hfl _ _ h2;simp only [l,D] at this;omega
    ·have:=hp.dis _ _ b h2 h4;omega
   ·rcases h2 with rfl|⟨k,hk,h2⟩
    ·have:=hfl _ _ h4;simp only [l,D] at this;omega
    ·have:=hp.dis _ _ b h2 h4;omega
   ·omega
  ·have hb:b=l∨∃ j,fp j b:=by
    rcases hi with ⟨_,h2⟩|⟨_,h2|⟨j,_,h2⟩⟩
    ·exact .inr ⟨_,h2⟩
    ·exact .inl h2
    ·exact .inr ⟨j,h2⟩
   rcases hb with rfl|⟨j,hj⟩
   ·refine ⟨by simp only [l];omega,fun hs=>?_,.inr (.inr rfl)⟩
    rcases hs with hs|hs
    ·have:=hr.s3 _ hs;simp only [l] at this;omega
    ·simp only [l,D] at hs;omega
   ·obtain ⟨k1,k2,k3⟩:=hp.own j b hj
    refine ⟨by omega,fun hs=>?_,.inr (.inl ⟨j,hj⟩)⟩
    rcases hs with hs|hs
    ·exact k2 hs
    ·simp only [D] at hs;omega
  ·simp at hi
   rcases hb with ⟨h1,_⟩|⟨h1,_⟩ <;> omega
  ·intro hs
   rcases hb with ⟨j,hj⟩|rfl
   ·obtain ⟨k1,k2,k3⟩:=hp.own j b hj
    rcases hs with hs|hs
    ·exact k2 hs
    ·simp only [D] at hs;omega
   ·rcases hs with hs|hs
    ·have:=hr.s3 _ hs;simp only [l] at this;omega
    ·simp only [l,D] at hs;omega
 have hround':∀ k,k<m→ACY G.gs P l [(some l,.obj (rndOP L (fun _=>(.ready,none)) HB (φ k)))] (E k) (YQ l (rndOP L (fun _=>(.ready,none)) HB (φ (k+1))) (rndOP L (fun x:Code×q=>(.done,some x.1)) (fun x=>HX x.2) (fun x=>χ x.1 x.2))):=fun k hk=>by
  refine acy_round (by rw [hL];exact hps k hk) (fun p hp=>?_) (fun al w0 F0 St0 R0 R1 x hx=>?_)
  ·rw [hL] at hp ⊢
   exact Nat.le_of_ble_eq_true (List.all_eq_true.1 hpN p hp)
  ·rw [hL]
   exact hround k hk l al w0 F0 St0 R0 R1 x hx
 have hA:=hit l (fun k=>rndOP L (fun _=>(.ready,none)) HB (φ k)) _ hround'
 have hvals:(#[.func (.yield l) #[] #[]]++cs:Array Value).size=(.c (.func (.yield l) #[] #[])::(List.range n).map fv:List CV).length:=by simp [hcn];omega
 have hcall:=hA G.al w1 St1 F1 (#[.func (.yield l) #[] #[]]++cs) hent hvals (fun i=>by
  cases i with
  | zero =>
   show (#[Value.func (.yield l) #[] #[]]++cs).getD 0 undef=_
   rw [Array.getD_eq_getD_getElem?,Array.getElem?_append_left (by simp)]
   rfl
  | succ i =>
   rw [fl,fl_get]
   by_cases hi:i<n
   ·have:=RepC.evo hev1 hst1 _ _ (hfv i hi)
    simp only [List.getD,List.getElem?_map,List.getElem?_range hi,Option.map_some,Option.getD_some,Array.getD_eq_getD_getElem?]
    rw [Array.getElem?_append_right (by simp)]
    simpa [Array.getD_eq_getD_getElem?] using this
   ·simp only [List.getD,List.getElem?_eq_none (show ((List.range n).map fv).length≤i by simp;omega),Option.getD_none]
    trivial)
 have e0:[({ target:=.collected w.heap.size,args:=#[] }:Deferred)]++a.defers=markD D::a.defers:=rfl
 refine ⟨l,[{ target:=.collected w.heap.size,args:=#[] }],w1,{ target:=.fn (.func fi) cs,args:=#[.func (.yield l) #[] #[]] },w1,fi,#[.func (.yield l) #[] #[]]++cs,w1,?_,?_,fun _ _=>trivial,?_,fun h=>(by cases h),?_⟩
 ·rw [hw1]
  have:=run_enterLoop_outer (P:=P) (w:=w) fn a.tmps ps assign body
  rw [hL]
  exact this
 ·simp only [resolve,hcs]
  simp [go_sem]
 ·have:=run_enter hc (#[.func (.yield l) #[] #[]]++cs) w1
  simp [invoke,go_sem,this]
 ·refine CallsIn.mono (callsIn_frd.2 hcall) ?_
  rintro e w3 ⟨v,r',H',St',rfl,hq,_,hu,h3,h4,h5,h6⟩
  -- the loop's end,whichever
  have key:∀ {γ:Type} {sp:γ→LoopState×Option Code} {HC:γ→List (Option Nat×Res)} {ψ:γ→Prop},H'=[(some l,.obj (rndOP L sp HC ψ))]→(∀ x,(sp x).1≠.busy)→∃ x:γ,ψ x∧∃ w4,(Instr.endLoop l).run P w3=.ok (sp x).2 w4∧Rel G ⟨s.env,s.b,HC x⟩ { a with defers:=[{ target:=.collected w.heap.size,args:=#[] }]++a.defers } w4:=by
   intro γ sp HC ψ hH hbusy
   subst hH
   obtain ⟨fz,hz⟩:=h6
   obtain ⟨x,fn',tmps',D',hx,_,_,fq,hf⟩:=hz.rep 0 (some l) _ rfl
   obtain ⟨hFl,hgl⟩:=hf.rep (HC x).length (some l) _ (get_last _ _)
   have hlt:l<w3.heap.size:=(Array.getElem?_eq_some_iff.1 hgl).1
   refine ⟨x,hx,_,run_endLoop hgl (hbusy x),St',?_⟩
   obtain ⟨w4,hw4⟩:∃ w4,w4=w3.putObj l (.loop { mkRec fn' tmps' L D' (sp x) with state:=.exhausted }):=⟨_,rfl⟩
   rw [← hw4]
   have hold:∀ b,b≠l→w4.heap[b]?=w3.heap[b]?:=fun b hb=>by rw [hw4];exact World.putObj_heap_other hb
   have hs4:w4.heap.size=w3.heap.size:=by rw [hw4];simp
   have hf0:∀ b,F1 b→¬ St1 b:=hent.f0
   have hnl:∀ b,St1 b→b≠l:=fun b hb e=>hf0 b (.inr e) hb
   have hkeep:∀ b,St1 b→w4.heap[b]?=w1.heap[b]?:=fun b hb=>(hold b (hnl b hb)).trans (hu.block b (hent.s3 b hb) (fun hF=>hf0 b hF hb))
   have hkeep0:∀ b,St b→w4.heap[b]?=w.heap[b]?:=fun b hb=>(hkeep b (.inl hb)).trans (hb1.block b (hr.s3 b hb))
   have hnc:∀ cur t z,w3.heap[l]?≠some (.cells cur t z):=fun cur t z e=>by rw [hgl] at e;cases e
   have hev:Evo St w w4:=⟨fun b cur t z hb hc=>(hkeep0 b hb).trans hc,fun b cur t z hc=>by
    obtain ⟨c1,z1,k1,k2⟩:=hev1.sh b cur t z hc
    obtain ⟨c2,z2,k3,k4⟩:=hu.sh b c1 t z1 k1
    refine ⟨c2,z2,(hold b (fun e=>?_)).trans k3,k4.trans k2⟩
    rw [e] at k3
    exact hnc _ _ _ k3⟩
   have hev3:Evo St' w3 w4:=⟨fun b cur t z hb hc=>(hold b (fun e=>by rw [e] at hc;exact hnc _ _ _ hc)).trans hc,fun b cur t z hc=>⟨cur,z,(hold b (fun e=>by rw [e] at hc;exact hnc _ _ _ hc)).trans hc,rfl⟩⟩
   refine ⟨?_,hr.sz,fun d=>RepC.evo hev (fun b hb=>h3 b (.inl hb)) _ _ (hr.env d),⟨?_,?_,?_,?_,fun k hk hF=>?_,fun b cur t z hc=>?_⟩,fun b hb=>h3 b (.inl (hr.s1 b hb)),fun b hb=>?_,fun b hb=>by rw [hs4];exact h5 b hb,⟨fun j b=>j<(HC x).length∧fq j b,fun j g r hj=>?_,fun i j b hi hj=>hf.dis i j b hi.2 hj.2,fun j b hj=>?_,fun j hj b hb=>?_⟩,?_,⟨fun g hg=>h3 g (.inl (hr.sg.1 g hg)),fun y hy=>h3 _ (.inl (hr.sg.2 y hy))⟩⟩
   ·obtain ⟨Ds,k1,k2,k3⟩:=hr.df
    refine ⟨D::Ds,by rw [e0,k1];rfl,List.nodup_cons.2 ⟨fun hm=>?_,k2⟩,fun E hE=>?_⟩
    ·have:=(Array.getElem?_eq_some_iff.1 (k3 D hm).1.2).1
     simp only [D] at this
     omega
    ·rcases List.mem_cons.1 hE with rfl|hE
     ·refine ⟨⟨h3 _ (.inr rfl),(hkeep _ (.inr rfl)).trans hD1⟩,hr.un.size,fun hm=>?_,fun y hy e=>?_⟩
      ·have:=hr.sn.lt _ hm;simp only [D] at this;omega
      ·have:=hr.s3 _ (hr.sg.2 y hy);simp only [e,D] at this;omega
     ·obtain ⟨⟨k4,k5⟩,k6⟩:=k3 E hE
      exact ⟨⟨h3 _ (.inl k4),(hkeep0 E k4).trans k5⟩,k6⟩
   ·rw [hw4];exact (hu.os.trans hb1.os).trans hr.un.os
   ·rw [hw4];exact (hu.tape.trans hb1.tape).trans hr.un.tape
   ·rw [hw4];exact (hu.output.trans hb1.output).trans hr.un.output
   ·rw [hs4];exact Nat.le_trans hr.un.size (Nat.le_trans hb1.size hu.size)
   ·have hkw:k<w.heap.size:=Nat.lt_of_lt_of_le hk hr.un.size
    refine (hold k (by simp only [l];omega)).trans ((hu.block k (by omega) (fun hF1=>?_)).trans ((hb1.block k hkw).trans (hr.un.block k hk hF)))
    rcases hF1 with ⟨i,hi⟩|e
    ·rcases (hp.own i k hi).2.2 with k1|k1
     ·omega
     ·exact hF k1
    ·simp only [l] at e;omega
   ·obtain ⟨c1,z1,k1,k2⟩:=hr.un.sh b cur t z hc
    obtain ⟨c2,z2,k3,k4⟩:=hev.sh b c1 t z1 k1
    exact ⟨c2,z2,k3,k4.trans k2⟩
   ·rcases h4 b hb with (hb|hb)|hb|hb
    ·exact hr.s2 b hb
    ·exact .inr (.inl (by simp only [D] at hb;have:=hr.un.size;omega))
    ·exact .inr (.inl (Nat.le_trans hr.un.size (by omega)))
    ·rcases hb with ⟨i,hi⟩|hb
     ·exact .inr (hp.own i b hi).2.2
     ·exact .inr (.inl (by simp only [l] at hb;have:=hr.un.size;omega))
   ·have hlt2:j<(HC x).length:=(List.getElem?_eq_some_iff.1 hj).1
    have e:(fun b=>j<(HC x).length∧fq j b)=fq j:=funext fun b=>propext ⟨fun h=>h.2,fun h=>⟨hlt2,h⟩⟩
    show r.rep G.al St' w4 (fun b=>j<(HC x).length∧fq j b) g
    rw [e]
    refine Res.rep_evo hev3 (fun _ h=>h) (fun b hF=>hold b (fun eb=>?_)) (hf.rep j g r (by rw [List.getElem?_append_left hlt2];exact hj))
    have:=hf.dis j (HC x).length b hF ((hFl b).2 eb)
    omega
   ·obtain ⟨k1,k2,k3⟩:=hz.own 0 b ((hf.all b).2 ⟨j,hj.2⟩)
    refine ⟨by omega,k2,?_⟩
    rcases k3 with k3|⟨i,hi⟩|k3
    ·exact .inl (Nat.le_trans hr.un.size (by omega))
    ·exact (hp.own i b hi).2.2
    ·exact .inl (by simp only [l] at k3;have:=hr.un.size;omega)
   ·have hj:(HC x).length≤j:=hj
    exact absurd hb.1 (by omega)
   ·exact SentL.keep hr.sn (fun g hg=>hkeep0 g (hr.sg.1 g hg)) (fun y hy=>hkeep0 _ (hr.sg.2 y hy))
  rcases hq with hq|hq
  ·obtain ⟨x,hx,w4,hend,hrel⟩:=key hq (fun _=>by simp)
   exact ⟨none,w4,hend,hQ .normal _ _ _ (hdone x hx) hrel⟩
  ·obtain ⟨x,hx,w4,hend,hrel⟩:=key hq (fun _=>by simp)
   refine ⟨some x.1,w4,hend,?_⟩
   rcases hjump _ _ hx with ⟨hc1,hR⟩|⟨id,hc1,hR⟩
   ·show Code.wpIn _ _ _ x.1 _ _ _
    rw [hc1]
    exact wpIn_ret (hQ .ret _ _ _ hR hrel)
   ·show Code.wpIn _ _ _ x.1 _ _ _
    rw [hc1]
    exact wpIn_exit (hQ (.exit id) _ _ _ hR hrel)
theorem assign_norm {body:Code} {B:List (Option Nat×Res)} {l:Nat} {R0 R1:OP} {RE:Exit→AS→Prop} {env:List (Nat×CV)} {b:Nat→CV} (h:ACode P G body ⟨env,b,B++[(some l,.obj R1)]⟩ RE):assignR P G body B l R0 R1 RE .normal ⟨env,b,B++[(some l,.obj R0)]⟩:=⟨_,_,rfl,h⟩
theorem round_norm {π q:Type} {l:Nat} {R1:OP} {HB:π→List (Option Nat×Res)} {φ':π→Prop} {HX:q→List (Option Nat×Res)} {χ:Code→q→Prop} (x:π) (h1:φ' x) (h2:Nat.ble ((HB x).length+1) s.H.length=true) (h3:HEnt (s.H.take ((HB x).length+1)) (HB x++[(some l,.obj R1)])):roundR l R1 HB φ' HX χ .normal s:=⟨x,h1,Nat.le_of_ble_eq_true h2,h3⟩
theorem round_ret {π q:Type} {l:Nat} {R1:OP} {HB:π→List (Option Nat×Res)} {φ':π→Prop} {HX:q→List (Option Nat×Res)} {χ:Code→q→Prop} (x:q) (h1:χ .ret x) (h2:Nat.ble ((HX x).length+1) s.H.length=true) (h3:HEnt (s.H.take ((HX x).length+1)) (HX x++[(some l,.obj R1)])):roundR l R1 HB φ' HX χ .ret s:=⟨x,h1,Nat.le_of_ble_eq_true h2,h3⟩
theorem rd_convB1 {o:Oper} {t u e:TypeId} {x:Operand} {i n N:Nat} {g:Option Nat} {L:List UInt8} (ho:o.op=.convert t u x) (hx:s.eval x=.os i g 0 n 1) (hH:Holds s i g N (byF L)) (hn:n=L.length) (hN:n≤N) (h1:P.underlying t=some (.slice e)) (h2:P.underlying e=some (.int .u8)) (h3:P.underlying u=some .string):ARdO P G o s (strC L) :=
 rd_convBO L ho hx hH hn (by omega) (fun a _=>by rw [Nat.zero_add];exact cZ) h1 h2 h3
end
end
section
open Go.RowKit
def firstI {α:Type} (p:α→Bool):List α→Int
 | []=>-1
 | x::l=>if p x=true then 0 else if firstI p l<0 then -1 else firstI p l+1
theorem firstI_bd {α:Type} (p:α→Bool):∀ l:List α,-1≤firstI p l∧firstI p l<l.length
 | []=>by simp [firstI]
 | x::l=>by
  have:=firstI_bd p l
  rw [firstI]
  rw [List.length_cons]
  split
  ·omega
  split <;> omega
theorem firstI_neg {α:Type} {p:α→Bool}:∀ {l:List α},firstI p l<0↔l.all (fun x=>!p x)=true
 | []=>by simp [firstI]
 | x::l=>by
  have ih:=@firstI_neg α p l
  have:=firstI_bd p l
  rw [firstI,List.all_cons]
  by_cases h:p x=true
  ·simp [h]
  ·rw [if_neg h]
   have hx:(!p x)=true:=by simpa using h
   rw [hx,Bool.true_and,← ih]
   split <;> omega
theorem firstI_none {α:Type} {p:α→Bool} {l:List α} (h:∀ i (hi:i<l.length),p l[i]=false):firstI p l=-1:=by
 have h1:firstI p l<0:=firstI_neg.2 (List.all_eq_true.2 fun x hx=>by
  obtain ⟨i,hi,rfl⟩:=List.getElem_of_mem hx
  simp [h i hi])
 have:=firstI_bd p l
 omega
theorem firstI_at {α:Type} {p:α→Bool}:∀ {l:List α} (i:Nat) (hi:i<l.length),p l[i]=true→(∀ j (hj:j<i),p (l[j]'(by omega))=false)→firstI p l=(i:Nat)
 | [],i,hi,_,_=>by simp at hi
 | x::l,0,hi,h,_=>by simp at h;simp [firstI,h]
 | x::l,i+1,hi,h,hb=>by
  have h0:p x=false:=by simpa using hb 0 (by omega)
  have ih:=@firstI_at α p l i (by simpa using hi) (by simpa using h) (fun j hj=>by simpa using hb (j+1) (by omega))
  rw [firstI,if_neg (by simp [h0]),ih,if_neg (by omega)]
  omega
theorem entL_refl:∀ l:List CV,EntL l l
 | []=>.nil
 | c::l=>.cons (CEnt.refl c) (entL_refl l)
theorem entL_fn {c d:CV} (h:CEnt c d) (l:List CV):EntL ([c]++l) (d::l):=.cons h (entL_refl l)
theorem CEnt.fn0 {g:FuncId} {f:Nat→CV}:CEnt (.c (.func (.func g) #[] #[])) (.fn g 0 f):=fun al St w v h=>⟨#[],h,rfl,fun i hi=>absurd hi (Nat.not_lt_zero i)⟩
theorem firstI_any {α:Type} (p:α→Bool) (l:List α):decide (0≤firstI p l)=l.any p:=by
 have:=@firstI_neg _ p l
 by_cases h:firstI p l<0
 ·have h2:=this.1 h
  rw [decide_eq_false (by omega)]
  symm
  rw [List.any_eq_false]
  intro x hx h3
  have:=List.all_eq_true.1 h2 x hx
  rw [h3] at this
  exact Bool.noConfusion this
 ·have h2:=mt this.2 h
  rw [decide_eq_true (by omega)]
  symm
  rw [List.any_eq_true]
  simpa using h2
theorem all_not_any {α:Type} (p:α→Bool) (l:List α):(!l.any fun x=>!p x)=l.all p:=by
 induction l with
 | nil=>rfl
 | cons a l ih=>simp only [List.any_cons,List.all_cons,Bool.not_or,Bool.not_not,ih]
theorem CEnt.rp {n:Nat} {f g:Nat→CV} (h:∀ j,j<n→CEnt (f j) (g j)):CEnt (.rp n f) (.rp n g):=fun al St w v ⟨b,o,h1,h2,h3⟩ =>
 ⟨b,o,h1,h2,fun j hj=>by
  obtain ⟨x,hx,hr⟩:=h3 j hj
  exact ⟨x,hx,h j hj al St w x hr⟩⟩
theorem CEnt.fn3 {k:FuncId} {f g:Nat→CV} (h0:CEnt (f 0) (g 0)) (h1:CEnt (f 1) (g 1)) (h2:CEnt (f 2) (g 2)):CEnt (.fn k 3 f) (.fn k 3 g):=fun al St w v ⟨cs,k1,k2,k3⟩ =>
 ⟨cs,k1,k2,fun i hi=>match i,hi with
  | 0,hi=>h0 al St w _ (k3 0 hi)
  | 1,hi=>h1 al St w _ (k3 1 hi)
  | 2,hi=>h2 al St w _ (k3 2 hi)⟩
theorem CEnt.fn1 {k:FuncId} {f g:Nat→CV} (h:CEnt (f 0) (g 0)):CEnt (.fn k 1 f) (.fn k 1 g):=fun al St w v ⟨cs,h1,h2,h3⟩ =>
 ⟨cs,h1,h2,fun i hi=>by
  obtain rfl:i=0:=by omega
  exact h al St w _ (h3 0 hi)⟩
theorem BLe.look2 {D:List Nat} {b0 b2:Nat→CV} {env2:List (Nat×CV)} (h:BLe D b0 b2) (h3:(env2.all fun x=>D.any (Nat.beq x.1))=true):BLe D b0 (look env2 b2):=BLe.nest (D2:=[]) (env2:=env2) (b2:=b2) h rfl h3
end
section
open Go.RowKit
section
variable {P:Program} {G:Gh} {ops:Array Oper} {o:Oper} {s:AS} {r:List Oper} {K:AS→Prop} {R:Exit→AS→Prop} {Y:AS→Prop} {x y:Code} {env:List (Nat×CV)} {b0:Nat→CV} {H:List (Option Nat×Res)}

def jfz:CV→Option CV
 | .top=>some .top
 | .c v=>some (.c v)
 | .err k=>some (.err k)
 | .agg n f=>some (.agg n f)
 | .tup n f=>some (.tup n f)
 | .rs k n f=>some (.rs k n f)
 | .rp n f=>some (.rp n f)
 | .os i g off n k=>some (.os i g off n k)
 | .op i g off=>some (.op i g off)
 | .fn g n f=>some (.fn g n f)
 | .pv p=>some (.pv p)
theorem jfz_eq {c v:CV} (h:jfz c=some v):c=v:=by cases c <;> (simp only [jfz,Option.some.injEq] at h;exact h)
def jlookO:List (Nat×CV)→Nat→Option CV
 | [],_=>none
 |(e,v)::r,d=>match Nat.beq e d with|true=>some v|false=>jlookO r d
theorem jlookO_some {b:Nat→CV} {d:Nat} {v:CV}:∀ {env:List (Nat×CV)},jlookO env d=some v→look env b d=v
 |(e,u)::r,h=>by
  unfold jlookO at h;unfold look
  cases hb:Nat.beq e d with
  | true=>rw [hb] at h;exact Option.some.inj h
  | false=>rw [hb] at h;exact jlookO_some h
theorem jlookO_none {b:Nat→CV} {d:Nat}:∀ {env:List (Nat×CV)},jlookO env d=none→look env b d=b d
 | [],_=>rfl
 |(e,u)::r,h=>by
  unfold jlookO at h;unfold look
  cases hb:Nat.beq e d with
  | true=>rw [hb] at h;cases h
  | false=>rw [hb] at h;exact jlookO_none h
theorem jev_t {d:Nat} {v:CV} (h:jlookO s.env d=some v):s.eval (.tmp d)=v:=jlookO_some h
theorem jev_l {D:List Nat} {e2:List (Nat×CV)} {b2:Nat→CV} {d:Nat} {v:CV} (h:jlookO env d=none) (hD:D.any (Nat.beq d)=false) (h2:jlookO e2 d=some v):(⟨env,lay D e2 b2,H⟩:AS).eval (.tmp d)=v:=by
 show look env (lay D e2 b2) d=v
 rw [jlookO_none h]
 unfold lay
 rw [hD]
 exact jlookO_some h2
theorem jev_f {x:Operand} {v:CV} (h:jfz (s.eval x)=some v):s.eval x=v:=jfz_eq h
def jflO:List CV→Nat→Option CV
 | [],_=>none
 | x::_,0=>some x
 | _::r,i+1=>jflO r i
theorem jflO_eq:∀ {l:List CV} {i:Nat} {v:CV},jflO l i=some v→fl l i=v
 | x::_,0,v,h=>Option.some.inj h
 | _::r,i+1,v,h=>jflO_eq (l:=r) h

def jslQ (P:Program) (t:TypeId) (m:Nat):Bool:=match P.underlying t with|some (.slice e)=>(match (P.info? e).map (·.size) with|some k=>Nat.beq k m|none=>false)|_=>false
theorem jslQ_ok {t:TypeId} {m:Nat} (h:jslQ P t m=true):∃ e,P.underlying t=some (.slice e)∧(P.info? e).map (·.size)=some m:=by
 unfold jslQ at h
 split at h
 ·rename_i e he
  refine ⟨e,he,?_⟩
  split at h
  ·rename_i k hk;rw [hk,Nat.eq_of_beq_eq_true h]
  ·cases h
 ·cases h
def jslT (P:Program) (t:TypeId):Bool:=match P.underlying t with|some (.slice _)=>true|_=>false
theorem jslT_ok {t:TypeId} (h:jslT P t=true):∃ e,P.underlying t=some (.slice e):=by
 unfold jslT at h
 split at h
 ·rename_i e he;exact ⟨e,he⟩
 ·cases h
def jarQ (P:Program) (t:TypeId) (n m:Nat):Bool:=match P.underlying t with|some (.array k e)=>(match (P.info? e).map (·.size) with|some q=>Nat.beq q m && Nat.beq k n|none=>false)|_=>false
def jptT (P:Program) (t:TypeId):Bool:=match P.underlying t with|some (.pointer _)=>true|_=>false
def jbyT (P:Program) (t:TypeId):Bool:=match P.underlying t with|some (.slice e)=>(match P.underlying e with|some (.int .u8)=>true|_=>false)|_=>false
theorem jbyT_ok {t:TypeId} (h:jbyT P t=true):∃ e,P.underlying t=some (.slice e)∧P.underlying e=some (.int .u8):=by
 unfold jbyT at h
 split at h
 ·rename_i e he
  split at h
  ·rename_i h2;exact ⟨e,he,h2⟩
  ·cases h
 ·cases h
def jfdQ (P:Program) (t:TypeId) (i:Nat):Option (Nat×Nat×Bool):=match P.underlying t with
 | some (.struct fs)=>(match fs[i]? with|some fd=>(match (P.info? fd.type).map (·.size),P.underlying fd.type with|some m,some _=>some (fd.offset,m,aggB P fd.type)|_,_=>none)|none=>none)
 | _=>none
theorem jfdQ_ok {t:TypeId} {i q m:Nat} {b:Bool} (h:jfdQ P t i=some (q,m,b)):∃ fs fd d,P.underlying t=some (.struct fs)∧fs[i]?=some fd∧P.underlying fd.type=some d∧aggB P fd.type=b∧(P.info? fd.type).map (·.size)=some m∧fd.offset=q:=by
 unfold jfdQ at h
 split at h
 ·rename_i fs h1
  split at h
  ·rename_i fd h2
   split at h
   ·rename_i k d h3 h4
    simp only [Option.some.injEq,Prod.mk.injEq] at h
    exact ⟨fs,fd,d,h1,h2,h4,h.2.2,by rw [h3,h.2.1],h.1⟩
   ·cases h
  ·cases h
 ·cases h
def jtyQ (P:Program) (t:TypeId) (m:Nat) (b:Bool):Bool:=match (P.info? t).map (·.size),P.underlying t with|some k,some _=>Nat.beq k m && (aggB P t == b)|_,_=>false
theorem jtyQ_ok {t:TypeId} {m:Nat} {b:Bool} (h:jtyQ P t m b=true):∃ d,P.underlying t=some d∧aggB P t=b∧(P.info? t).map (·.size)=some m:=by
 unfold jtyQ at h
 split at h
 ·rename_i k d h1 h2
  rw [Bool.and_eq_true,beq_iff_eq] at h
  exact ⟨d,h2,h.2,by rw [h1,Nat.eq_of_beq_eq_true h.1]⟩
 ·cases h
def jldQ (P:Program) (t:TypeId):Bool:=match P.underlying t with|some _=>!(aggB P t)|none=>false
theorem jldQ_ok {t:TypeId} (h:jldQ P t=true):∃ d,P.underlying t=some d∧aggB P t=false:=by
 unfold jldQ at h
 split at h
 ·rename_i d hd;exact ⟨d,hd,by simpa using h⟩
 ·cases h

def jmovO:Op→Option Operand|.move x=>some x|.assign x=>some x|_=>none
theorem jrm {x:Operand} {v:CV} (ho:jmovO o.op=some x:=by exact rfl) (hv:s.eval x=v:=by first|exact jev_t rfl|exact jev_l rfl rfl rfl|exact jev_f rfl):ARd P G o s v:=by
 unfold jmovO at ho
 split at ho
 ·rename_i z hz;exact rd_move hz (by rw [Option.some.inj ho];exact hv)
 ·rename_i z hz;exact rd_assign hz (by rw [Option.some.inj ho];exact hv)
 ·cases ho
theorem jrpT {z x' y':Operand} {v:CV} (ho:o.op=.pick z x' y':=by exact rfl) (hz:s.eval z=.c (.bool true):=by exact rfl) (hx:s.eval x'=v:=by first|exact jev_t rfl|exact jev_l rfl rfl rfl|exact jev_f rfl):ARd P G o s v:=rd_pickT ho hz hx
theorem jrpF {z x' y':Operand} {v:CV} (ho:o.op=.pick z x' y':=by exact rfl) (hz:s.eval z=.c (.bool false):=by exact rfl) (hy:s.eval y'=v:=by first|exact jev_t rfl|exact jev_l rfl rfl rfl|exact jev_f rfl):ARd P G o s v:=rd_pickF ho hz hy
theorem jrx {x:Operand} {i n:Nat} {f:Nat→CV} {v:CV} (ho:o.op=.extract x i:=by exact rfl) (hx:s.eval x=.tup n f:=by exact rfl) (hi:Nat.blt i n=true:=by exact rfl) (hv:f i=v:=by first|exact jflO_eq rfl|exact jfz_eq rfl):ARd P G o s v:=rd_extract ho hx hi hv
def jcmpI (op:BinOp) (a b:Int):Option Bool:=match op with
 | .eql=>some (decide (a=b))
 | .neq=>some (decide (a≠b))
 | .lss=>some (decide (a<b))
 | .leq=>some (decide (a≤b))
 | .gtr=>some (decide (b<a))
 | .geq=>some (decide (b≤a))
 | _=>none
theorem jrc {op:BinOp} {t u:TypeId} {x y:Operand} {k:IntKind} {a b:Int} {z:Bool} (ho:o.op=.binOp op t x y u:=by exact rfl) (hx:s.eval x=.c (.int k a):=by exact rfl) (hy:s.eval y=.c (.int k b):=by exact rfl) (hc:jcmpI op a b=some z:=by exact rfl):ARd P G o s (.c (.bool z)):=by
 cases op <;> simp only [jcmpI,Option.some.injEq,reduceCtorEq] at hc
 all_goals subst hc
 ·exact rd_eqI ho hx hy
 ·exact rd_neI ho hx hy
 ·exact rd_lt ho hx hy
 ·exact rd_le ho hx hy
 ·exact rd_gt ho hx hy
 ·exact rd_ge ho hx hy
def jarI (op:BinOp) (a b:Int):Option Int:=match op with
 | .add=>some (a+b)
 | .sub=>some (a-b)
 | .mul=>some (a * b)
 | _=>none
theorem jra {op:BinOp} {t u:TypeId} {x y:Operand} {k:IntKind} {a b z:Int} (ho:o.op=.binOp op t x y u:=by exact rfl) (hx:s.eval x=.c (.int k a):=by exact rfl) (hy:s.eval y=.c (.int k b):=by exact rfl) (hc:jarI op a b=some z:=by exact rfl) (hS:InR k z:=by (show _∧_;(first|omega|decide|(dsimp only at *;omega)))):ARd P G o s (.c (.int k z)):=by
 cases op <;> simp only [jarI,Option.some.injEq,reduceCtorEq] at hc
 all_goals subst hc
 ·exact rd_add ho hx hy (wrap_id hS)
 ·exact rd_sub ho hx hy (wrap_id hS)
 ·exact rd_mul ho hx hy (wrap_id hS)
theorem jrq {t u:TypeId} {x y:Operand} {k:IntKind} {a b:Int} (ho:o.op=.binOp .quo t x y u:=by exact rfl) (hx:s.eval x=.c (.int k a):=by exact rfl) (hy:s.eval y=.c (.int k b):=by exact rfl) (hS:0≤a:=by first|omega|decide|(dsimp only at *;omega)) (hS2:1≤b:=by first|omega|decide|(dsimp only at *;omega)) (hS3:InR k (a / b):=by (show _∧_;(first|omega|decide|(dsimp only at *;omega)))):ARd P G o s (.c (.int k (a / b))):=rd_quo ho hx hy hS hS2 (wrap_id hS3)
theorem jrr {t u:TypeId} {x y:Operand} {k:IntKind} {a b:Int} (ho:o.op=.binOp .rem t x y u:=by exact rfl) (hx:s.eval x=.c (.int k a):=by exact rfl) (hy:s.eval y=.c (.int k b):=by exact rfl) (hS:0≤a:=by first|omega|decide|(dsimp only at *;omega)) (hS2:1≤b:=by first|omega|decide|(dsimp only at *;omega)):ARd P G o s (.c (.int k (a % b))):=rd_rem ho hx hy hS hS2
def jcmpS (op:BinOp) (a b:List UInt8):Option Bool:=match op with
 | .eql=>some (decide (a=b))
 | .neq=>some (decide (a≠b))
 | .lss=>some (Op.bytesLess a b)
 | .gtr=>some (!(Op.bytesLess a b || a == b))
 | _=>none
theorem jrcs {op:BinOp} {t u:TypeId} {x y:Operand} {a b:List UInt8} {z:Bool} (ho:o.op=.binOp op t x y u:=by exact rfl) (hx:s.eval x=strC a:=by exact rfl) (hy:s.eval y=strC b:=by exact rfl) (hc:jcmpS op a b=some z:=by exact rfl):ARd P G o s (.c (.bool z)):=by
 cases op <;> simp only [jcmpS,Option.some.injEq,reduceCtorEq] at hc
 all_goals subst hc
 ·exact rd_eqL ho hx hy
 ·exact rd_neL ho hx hy
 ·exact rd_ltL ho hx hy
 ·exact rd_gtL ho hx hy
theorem jras {t u:TypeId} {x y:Operand} {a b:List UInt8} (ho:o.op=.binOp .add t x y u:=by exact rfl) (hx:s.eval x=strC a:=by exact rfl) (hy:s.eval y=strC b:=by exact rfl) (hS:a.length+b.length≤9223372036854775807:=by first|omega|decide|(dsimp only at *;omega)):ARd P G o s (strC (a++b)):=rd_addL ho hx hy hS
theorem jrcb {op:BinOp} {t u:TypeId} {x y:Operand} {a b z:Bool} (ho:o.op=.binOp op t x y u:=by exact rfl) (hx:s.eval x=.c (.bool a):=by exact rfl) (hy:s.eval y=.c (.bool b):=by exact rfl) (hc:(match op with|.eql=>some (a == b)|.neq=>some (!(a == b))|_=>none)=some z:=by exact rfl) (hT:P.underlying t=some .bool:=by kernel_rfl):ARd P G o s (.c (.bool z)):=by
 cases op <;> simp only [Option.some.injEq,reduceCtorEq] at hc
 all_goals subst hc
 ·exact rd_eqB ho hx hy hT
 ·exact rd_neB ho hx hy hT
def jNotV (c:CV) (z:Bool):Prop:=c=.c (.bool (!z))
theorem jnotD {p:Prop} [Decidable p] {c:CV} (h:c=.c (.bool (decide p))):jNotV c (decide ¬ p):=by unfold jNotV;rw [h];simp
theorem jnotB {p:Bool} {c:CV} (h:c=.c (.bool p)):jNotV c (!p):=by unfold jNotV;rw [h,Bool.not_not]
theorem jrn {t:TypeId} {x:Operand} {z:Bool} (ho:o.op=.unOp .not t x:=by exact rfl) (hx:jNotV (s.eval x) z:=by first|exact jnotD rfl|exact jnotB rfl):ARd P G o s (.c (.bool z)):=by
 have:=rd_not (P:=P) (G:=G) ho hx
 rwa [Bool.not_not] at this
def jlenV:CV→Option Int
 | .rs _ n _=>some ((n:Nat):Int)
 | .os _ _ _ n _=>some ((n:Nat):Int)
 | .c (.slice none 0 0)=>some 0
 | _=>none
theorem jrl {x:Operand} {t:TypeId} {z:Int} (ho:o.op=.call ⟨.builtin .len,#[x],#[t]⟩:=by exact rfl) (hx:jlenV (s.eval x)=some z:=by exact rfl) (hT:jslT P t=true:=by kernel_rfl):ARd P G o s (.c (.int .i64 z)):=by
 obtain ⟨e,he⟩:=jslT_ok hT
 unfold jlenV at hx
 split at hx
 ·rename_i h;cases hx;exact rd_lenR ho h he
 ·rename_i h;cases hx;exact rd_lenO ho h he
 ·rename_i h;cases hx;exact rd_lenN ho h he
 ·cases hx
theorem jrls {x:Operand} {t:TypeId} {a:List UInt8} (ho:o.op=.call ⟨.builtin .len,#[x],#[t]⟩:=by exact rfl) (hx:s.eval x=strC a:=by exact rfl) (hT:P.underlying t=some .string:=by kernel_rfl):ARd P G o s (.c (.int .i64 (a.length:Nat))):=rd_lenL ho hx hT
theorem jrf (q m:Nat) {t:TypeId} {x:Operand} {i n:Nat} {f:Nat→CV} {v:CV} (ho:o.op=.field t x i:=by exact rfl) (hx:s.eval x=.agg n f:=by exact rfl) (hv:f q=v:=by first|exact jflO_eq rfl|exact jfz_eq rfl) (hi:Nat.blt q n=true:=by exact rfl) (hT:jfdQ P t i=some (q,m,false):=by kernel_rfl):ARd P G o s v:=by
 obtain ⟨fs,fd,d,h1,h2,h3,h4,h5,h6⟩:=jfdQ_ok hT
 subst h6
 exact rd_field ho hx h1 h2 h3 h4 hi hv
def jfaV (q:Nat):CV→Option CV
 | .op j g off=>some (.op j g (off+q))
 | .rp n f=>some (.rp (n-q) fun j=>f (q+j))
 | _=>none
theorem jrfa (q m:Nat) (b:Bool) {t:TypeId} {x:Operand} {i:Nat} {v:CV} (ho:o.op=.fieldAddr t x i:=by exact rfl) (hx:jfaV q (s.eval x)=some v:=by exact rfl) (hm:Nat.blt 0 m=true:=by exact rfl) (hT:jfdQ P t i=some (q,m,b):=by kernel_rfl):ARd P G o s v:=by
 obtain ⟨fs,fd,d,h1,h2,h3,h4,h5,h6⟩:=jfdQ_ok hT
 subst h6
 unfold jfaV at hx
 split at hx
 ·rename_i h;cases hx;exact rd_faddrO ho h h1 h2 h5 hm
 ·rename_i h;cases hx;exact rd_faddrR ho h h1 h2 h5 hm
 ·cases hx
def jixV (i:Nat):CV→Option (CV×Nat×Nat)
 | .rs m n f=>some (.rp m (f i),n,m)
 | .os j g off n m=>some (match Nat.beq off 0,Nat.beq m 1 with|true,true=>.op j g i|_,_=>.op j g (off+i * m),n,m)
 | _=>none
theorem jri {i:Nat} {t:TypeId} {x y:Operand} {k:IntKind} {z:Int} {v:CV} {n m:Nat} (ho:o.op=.indexAddr t x y:=by exact rfl) (hy:s.eval y=.c (.int k z):=by exact rfl) (hz:z=(i:Int):=by first|exact rfl|exact natI (by omega)) (hx:jixV i (s.eval x)=some (v,n,m):=by exact rfl) (hS:i<n:=by first|omega|decide|(dsimp only at *;omega)) (hm:Nat.blt 0 m=true:=by exact rfl) (hT:jslQ P t m=true:=by kernel_rfl):ARd P G o s v:=by
 obtain ⟨e,h1,h5⟩:=jslQ_ok hT
 unfold jixV at hx
 split at hx
 ·rename_i h;cases hx;exact rd_iaddrR ho h hy h1 h5 hz hS (Nat.le_of_ble_eq_true hm)
 ·rename_i j g off n' m' h
  cases hx
  cases h6:Nat.beq off 0 with
  | false=>exact rd_iaddrO ho h hy h1 h5 hz hS
  | true =>
   cases h7:Nat.beq m 1 with
   | false=>exact rd_iaddrO ho h hy h1 h5 hz hS
   | true =>
    have e1:=Nat.eq_of_beq_eq_true h6
    have e2:=Nat.eq_of_beq_eq_true h7
    subst e1 e2
    exact rd_iaddrO1 ho h hy h1 h5 hz hS
 ·cases hx
theorem jrix {i:Nat} {t:TypeId} {x y:Operand} {k:IntKind} {z:Int} {a:List UInt8} (ho:o.op=.index t x y:=by exact rfl) (hx:s.eval x=strC a:=by exact rfl) (hy:s.eval y=.c (.int k z):=by exact rfl) (hz:z=(i:Int):=by first|exact rfl|exact natI (by omega)) (hS:i<a.length:=by first|omega|decide|(dsimp only at *;omega)) (hT:P.underlying t=some .string:=by kernel_rfl):ARd P G o s (byF a i):=rd_indexL ho hx hy hT hz hS
def jnilV:CV→Option CV
 | .op i g off=>some (.op i g off)
 | .rp n f=>some (.rp n f)
 | .fn g n f=>some (.fn g n f)
 | _=>none
theorem jrnc {x:Operand} {v:CV} (ho:o.op=.nilCheck x:=by exact rfl) (hx:jnilV (s.eval x)=some v:=by exact rfl):ARd P G o s v:=by
 unfold jnilV at hx
 split at hx
 ·rename_i h;cases hx;exact rd_nilO ho h
 ·rename_i h;cases hx;exact rd_nilR ho h
 ·rename_i h;cases hx;exact rd_nilF ho h
 ·cases hx
theorem jrmf {g:FuncId} {cs:Array Operand} {n:Nat} (ho:o.op=.makeFunc (.func g) #[] cs:=by exact rfl) (hn:cs.size=n:=by exact rfl):ARd P G o s (.fn g n (fl (cs.toList.map s.eval))):=rd_makeFunc ho hn
theorem jrv8 (k':IntKind) {c:UInt8} {t u:TypeId} {x:Operand} (ho:o.op=.convert t u x:=by exact rfl) (hx:s.eval x=.c (.int .u8 ((c.toNat:Nat):Int)):=by exact rfl) (h1:P.underlying t=some (.int .u8):=by kernel_rfl) (h2:P.underlying u=some (.int k'):=by kernel_rfl) (hk:wide8 k'=true:=by exact rfl):ARd P G o s (.c (.int k' ((c.toNat:Nat):Int))):=rd_conv8 ho hx h1 h2 hk
theorem jrv (k k':IntKind) {a:Int} {t u:TypeId} {x:Operand} (ho:o.op=.convert t u x:=by exact rfl) (hx:s.eval x=.c (.int k a):=by exact rfl) (hS:InR k' a:=by (show _∧_;(first|omega|decide|(dsimp only at *;omega)))) (h1:P.underlying t=some (.int k):=by kernel_rfl) (h2:P.underlying u=some (.int k'):=by kernel_rfl):ARd P G o s (.c (.int k' a)):=rd_convI ho hx h1 h2 a (wrap_id hS)
theorem jrvW (k k':IntKind) {a z:Int} {t u:TypeId} {x:Operand} (ho:o.op=.convert t u x:=by exact rfl) (hx:s.eval x=.c (.int k a):=by exact rfl) (hr:k'.wrap a=z:=by exact rfl) (h1:P.underlying t=some (.int k):=by kernel_rfl) (h2:P.underlying u=some (.int k'):=by kernel_rfl):ARd P G o s (.c (.int k' z)):=rd_convI ho hx h1 h2 z hr
theorem jrbs {t u:TypeId} {x:Operand} {a:List UInt8} (ho:o.op=.convert t u x:=by exact rfl) (hx:s.eval x=bsC a:=by exact rfl) (hT:jbyT P t=true:=by kernel_rfl) (h3:P.underlying u=some .string:=by kernel_rfl):ARd P G o s (strC a):=by
 obtain ⟨e,h1,h2⟩:=jbyT_ok hT
 exact rd_convBL ho hx h1 h2 h3
theorem jrbn {t u:TypeId} {x:Operand} (ho:o.op=.convert t u x:=by exact rfl) (hx:s.eval x=.c (.slice none 0 0):=by exact rfl) (hT:jbyT P t=true:=by kernel_rfl) (h3:P.underlying u=some .string:=by kernel_rfl):ARd P G o s (.c (.string ⟨#[]⟩)):=by
 obtain ⟨e,h1,h2⟩:=jbyT_ok hT
 exact rd_convBN ho hx h1 h2 h3
theorem jrbo {t u:TypeId} {x:Operand} {i n N:Nat} {g:Option Nat} {L:List UInt8} (ho:o.op=.convert t u x:=by exact rfl) (hx:s.eval x=.os i g 0 n 1:=by exact rfl) (hH:Holds s i g N (byF L):=by first|exact .inl rfl|exact .inr rfl) (hn:n=L.length:=by first|rfl|simp) (hN:n≤N:=by first|exact Nat.le_refl _|simp) (hT:jbyT P t=true:=by kernel_rfl) (h3:P.underlying u=some .string:=by kernel_rfl):ARdO P G o s (strC L):=by
 obtain ⟨e,h1,h2⟩:=jbyT_ok hT
 exact rd_convB1 ho hx hH hn hN h1 h2 h3
theorem jrsf {t:TypeId} {p a:Operand} {z1:Int} {k1:IntKind} {l:Nat} {bl:List UInt8} (ho:o.op=.slice t p (some a) none none:=by exact rfl) (hx:s.eval p=bsC bl:=by exact rfl) (ha:s.eval a=.c (.int k1 z1):=by exact rfl) (hz1:z1=(l:Int):=by first|exact rfl|exact natI (by omega)) (hS:l≤bl.length:=by first|omega|decide|(dsimp only at *;omega)) (hT:jslQ P t 1=true:=by kernel_rfl):ARd P G o s (bsC (bl.drop l)):=by
 obtain ⟨e,h1,h5⟩:=jslQ_ok hT
 exact rd_sliceB_from ho hx h1 h5 ha hz1 hS
theorem jrst {t:TypeId} {p b:Operand} {z2:Int} {k2:IntKind} {v:Nat} {bl:List UInt8} (ho:o.op=.slice t p none (some b) none:=by exact rfl) (hx:s.eval p=bsC bl:=by exact rfl) (hb:s.eval b=.c (.int k2 z2):=by exact rfl) (hz2:z2=(v:Int):=by first|exact rfl|exact natI (by omega)) (hS:v≤bl.length:=by first|omega|decide|(dsimp only at *;omega)) (hT:jslQ P t 1=true:=by kernel_rfl):ARd P G o s (bsC (bl.take v)):=by
 obtain ⟨e,h1,h5⟩:=jslQ_ok hT
 exact rd_sliceB_to ho hx h1 h5 hb hz2 hS
theorem jrsb {t:TypeId} {p a b:Operand} {z1 z2:Int} {k1 k2:IntKind} {l v:Nat} {bl:List UInt8} (ho:o.op=.slice t p (some a) (some b) none:=by exact rfl) (hx:s.eval p=bsC bl:=by exact rfl) (ha:s.eval a=.c (.int k1 z1):=by exact rfl) (hz1:z1=(l:Int):=by first|exact rfl|exact natI (by omega)) (hb:s.eval b=.c (.int k2 z2):=by exact rfl) (hz2:z2=(v:Int):=by first|exact rfl|exact natI (by omega)) (hS:l≤v:=by first|omega|decide|(dsimp only at *;omega)) (hS2:v≤bl.length:=by first|omega|decide|(dsimp only at *;omega)) (hT:jslQ P t 1=true:=by kernel_rfl):ARd P G o s (bsC ((bl.take v).drop l)):=by
 obtain ⟨e,h1,h5⟩:=jslQ_ok hT
 exact rd_sliceB ho hx h1 h5 ha hz1 hb hz2 hS hS2
theorem jrsr {t:TypeId} {p:Operand} {m n l v:Nat} {f:Nat→Nat→CV} {lo hi:Option Operand} (ho:o.op=.slice t p lo hi none:=by exact rfl) (hx:s.eval p=.rs m n f:=by exact rfl) (hl:Bd s 0 lo l:=by first|exact bd_none _ _|exact bd_some rfl rfl|exact bd_some rfl (natI (by omega))) (hu:Bd s n hi v:=by first|exact bd_none _ _|exact bd_some rfl rfl|exact bd_some rfl (natI (by omega))) (hS:l≤v:=by first|omega|decide|(dsimp only at *;omega)) (hS2:v≤n:=by first|omega|decide|(dsimp only at *;omega)) (hT:jslQ P t m=true:=by kernel_rfl):ARd P G o s (.rs m (v-l) fun i j=>f (l+i) j):=by
 obtain ⟨e,h1,h5⟩:=jslQ_ok hT
 exact rd_sliceR ho hx h1 h5 hl hu hS hS2
theorem jrso {t:TypeId} {p:Operand} {i off m n l v:Nat} {g:Option Nat} {lo hi:Option Operand} (ho:o.op=.slice t p lo hi none:=by exact rfl) (hx:s.eval p=.os i g off n m:=by exact rfl) (hl:Bd s 0 lo l:=by first|exact bd_none _ _|exact bd_some rfl rfl|exact bd_some rfl (natI (by omega))) (hu:Bd s n hi v:=by first|exact bd_none _ _|exact bd_some rfl rfl|exact bd_some rfl (natI (by omega))) (hS:l≤v:=by first|omega|decide|(dsimp only at *;omega)) (hS2:v≤n:=by first|omega|decide|(dsimp only at *;omega)) (hS3:l=0∨l<n:=by first|omega|decide|(dsimp only at *;omega)) (hT:jslQ P t m=true:=by kernel_rfl):ARd P G o s (.os i g (off+l * m) (v-l) m):=by
 obtain ⟨e,h1,h5⟩:=jslQ_ok hT
 exact rd_sliceO ho hx h1 h5 hl hu hS hS2 hS3
theorem jrdo {t:TypeId} {x:Operand} {i off n:Nat} {g:Option Nat} {f:Nat→CV} {v:CV} (ho:o.op=.load t x:=by exact rfl) (hx:s.eval x=.op i g off:=by exact rfl) (hH:Holds s i g n f:=by first|exact .inl rfl|exact .inr rfl) (hv:f off=v:=by first|exact jflO_eq rfl|exact jfz_eq rfl) (hn:off<n:=by first|decide|omega|(dsimp only at *;omega)) (hT:jldQ P t=true:=by kernel_rfl):ARdO P G o s v:=by
 obtain ⟨d,h1,ha⟩:=jldQ_ok hT
 exact rd_loadO ho hx hH h1 ha hn hv
theorem jrdr {t:TypeId} {x:Operand} {n:Nat} {f:Nat→CV} {v:CV} (ho:o.op=.load t x:=by exact rfl) (hx:s.eval x=.rp n f:=by exact rfl) (hv:f 0=v:=by first|exact jflO_eq rfl|exact jfz_eq rfl) (hn:0<n:=by first|decide|omega|(dsimp only at *;omega)) (hT:jldQ P t=true:=by kernel_rfl):ARd P G o s v:=by
 obtain ⟨d,h1,ha⟩:=jldQ_ok hT
 exact rd_loadR ho hx h1 ha hn hv
theorem jrdoA (m:Nat) {t:TypeId} {x:Operand} {i off n:Nat} {g:Option Nat} {f:Nat→CV} (ho:o.op=.load t x:=by exact rfl) (hx:s.eval x=.op i g off:=by exact rfl) (hH:Holds s i g n f:=by first|exact .inl rfl|exact .inr rfl) (hn:off+m≤n:=by first|decide|omega|(dsimp only at *;omega)) (hT:jtyQ P t m true=true:=by kernel_rfl):ARdO P G o s (.agg m fun j=>f (off+j)):=by
 obtain ⟨d,h1,ha,h5⟩:=jtyQ_ok hT
 exact rd_loadOA ho hx hH h1 ha h5 hn
theorem jrdrA (m:Nat) {t:TypeId} {x:Operand} {n:Nat} {f:Nat→CV} (ho:o.op=.load t x:=by exact rfl) (hx:s.eval x=.rp n f:=by exact rfl) (hn:m≤n:=by first|decide|omega|(dsimp only at *;omega)) (hT:jtyQ P t m true=true:=by kernel_rfl):ARd P G o s (.agg m f):=by
 obtain ⟨d,h1,ha,h5⟩:=jtyQ_ok hT
 exact rd_loadRA ho hx h1 ha h5 hn
theorem jrde (i:Nat) [h0:HasE G.gs i] {t:TypeId} {g:Nat} (ho:o.op=.load t (.global g):=by exact rfl) (hg:gs[i]?=some g:=by exact rfl) (hT:jldQ P t=true:=by kernel_rfl):ARd P G o s (.err (i+1)):=by
 obtain ⟨d,h1,ha⟩:=jldQ_ok hT
 exact rd_loadE i ho hg h1 ha
theorem jq {d:Nat} {v:CV} (h:ARd P G o ⟨env,b0,H⟩ v) (hk:ASeq P G ops r ⟨(d,v)::env,b0,H⟩ K) (hd:o.dst=some d:=by exact rfl) (hN:Nat.blt d G.N=true:=by exact rfl) (hw:Wanted G ops o ⟨env,b0,H⟩ true:=by first|exact wanted_none rfl|exact wanted_is rfl rfl rfl rfl true rfl):ASeq P G ops (o::r) ⟨env,b0,H⟩ K:=q_rd hw hd hN h hk
theorem jqo {d:Nat} {v:CV} (h:ARdO P G o ⟨env,b0,H⟩ v) (hk:ASeq P G ops r ⟨(d,v)::env,b0,H⟩ K) (hd:o.dst=some d:=by exact rfl) (hN:Nat.blt d G.N=true:=by exact rfl) (hw:Wanted G ops o ⟨env,b0,H⟩ true:=by first|exact wanted_none rfl|exact wanted_is rfl rfl rfl rfl true rfl):ASeq P G ops (o::r) ⟨env,b0,H⟩ K:=q_rdO hw hd hN h hk
theorem jqs {d:Nat} (hk:ASeq P G ops r ⟨(d,.c undef)::env,b0,H⟩ K) (hd:o.dst=some d:=by exact rfl) (hN:Nat.blt d G.N=true:=by exact rfl) (hw:Wanted G ops o ⟨env,b0,H⟩ false:=by first|exact wanted_is rfl rfl rfl rfl false rfl|exact wanted_undef rfl rfl rfl rfl):ASeq P G ops (o::r) ⟨env,b0,H⟩ K:=q_skip hw hd hN hk
theorem jqe (h:AEx P G o ⟨env,b0,H⟩ (fun s'=>ASeq P G ops r s' K)) (hw:Wanted G ops o ⟨env,b0,H⟩ true:=by first|exact wanted_none rfl|exact wanted_is rfl rfl rfl rfl true rfl):ASeq P G ops (o::r) ⟨env,b0,H⟩ K:=seq_ex hw h
theorem jqm (h:AMd P G o ⟨env,b0,H⟩ (fun s'=>ASeq P G ops r s' K)) (hw:Wanted G ops o ⟨env,b0,H⟩ true:=by first|exact wanted_none rfl|exact wanted_is rfl rfl rfl rfl true rfl):ASeq P G ops (o::r) ⟨env,b0,H⟩ K:=seq_md hw h
def jopG:List Oper→Nat→Oper
 | [],_=>default
 | a::_,0=>a
 | _::l,i+1=>jopG l i
section
variable {i:Nat} {t:Ord}
theorem jopG_at (h:Nat.blt i ops.size=true):ops[i]?=some (jopG ops.toList i):=by
 have hlt:i<ops.size:=Nat.le_of_ble_eq_true h
 rw [Array.getElem?_eq_getElem hlt]
 have key:∀ (l:List Oper) (i:Nat) (hi:i<l.length),l[i]=jopG l i:=fun l=>by
  induction l with
  | nil=>intro i hi;simp at hi
  | cons a l ih =>
   intro i hi
   cases i with
   | zero=>rfl
   | succ i=>exact ih i (by simpa using hi)
 have:=key ops.toList i (by simpa using hlt)
 rw [← this,Array.getElem_toList]
theorem joT_rd (hi:Nat.blt i ops.size=true):opsOfT ops (.rd i t)=.rd (jopG ops.toList i) (opsOfT ops t):=by simp only [opsOfT,jopG_at hi]
theorem joT_one (hi:Nat.blt i ops.size=true):opsOfT ops (.one i t)=.one (jopG ops.toList i) (opsOfT ops t):=by simp only [opsOfT,jopG_at hi]
theorem jyq {d:Nat} {v:CV} (h:ARd P G (jopG ops.toList i) ⟨env,b0,H⟩ v) (hk:AX P G ops (opsOfT ops t) ⟨(d,v)::env,b0,H⟩ K) (hd:(jopG ops.toList i).dst=some d:=by exact rfl) (hN:Nat.blt d G.N=true:=by exact rfl) (hw:Wanted G ops (jopG ops.toList i) ⟨env,b0,H⟩ true:=by first|exact wanted_none rfl|exact wanted_is rfl rfl rfl rfl true rfl) (hi:Nat.blt i ops.size=true:=by exact rfl):AX P G ops (opsOfT ops (.rd i t)) ⟨env,b0,H⟩ K:=by rw [joT_rd hi];exact y_rd hw hd hN h hk
theorem jyo {d:Nat} {v:CV} (h:ARdO P G (jopG ops.toList i) ⟨env,b0,H⟩ v) (hk:AX P G ops (opsOfT ops t) ⟨(d,v)::env,b0,H⟩ K) (hd:(jopG ops.toList i).dst=some d:=by exact rfl) (hN:Nat.blt d G.N=true:=by exact rfl) (hw:Wanted G ops (jopG ops.toList i) ⟨env,b0,H⟩ true:=by first|exact wanted_none rfl|exact wanted_is rfl rfl rfl rfl true rfl) (hi:Nat.blt i ops.size=true:=by exact rfl):AX P G ops (opsOfT ops (.rd i t)) ⟨env,b0,H⟩ K:=by rw [joT_rd hi];exact y_rdO hw hd hN h hk
theorem jys {d:Nat} (hk:AX P G ops (opsOfT ops t) ⟨(d,.c undef)::env,b0,H⟩ K) (hd:(jopG ops.toList i).dst=some d:=by exact rfl) (hN:Nat.blt d G.N=true:=by exact rfl) (hw:Wanted G ops (jopG ops.toList i) ⟨env,b0,H⟩ false:=by first|exact wanted_is rfl rfl rfl rfl false rfl|exact wanted_undef rfl rfl rfl rfl) (hi:Nat.blt i ops.size=true:=by exact rfl):AX P G ops (opsOfT ops (.rd i t)) ⟨env,b0,H⟩ K:=by rw [joT_rd hi];exact y_skip hw hd hN hk
theorem jys1 {d:Nat} (hk:AX P G ops (opsOfT ops t) ⟨(d,.c undef)::env,b0,H⟩ K) (hd:(jopG ops.toList i).dst=some d:=by exact rfl) (hN:Nat.blt d G.N=true:=by exact rfl) (hw:Wanted G ops (jopG ops.toList i) ⟨env,b0,H⟩ false:=by first|exact wanted_is rfl rfl rfl rfl false rfl|exact wanted_undef rfl rfl rfl rfl) (hi:Nat.blt i ops.size=true:=by exact rfl):AX P G ops (opsOfT ops (.one i t)) ⟨env,b0,H⟩ K:=by rw [joT_one hi];exact y_noone hw hd hN hk
theorem jye (h:AEx P G (jopG ops.toList i) ⟨env,b0,H⟩ (fun s'=>AX P G ops (opsOfT ops t) s' K)) (hw:Wanted G ops (jopG ops.toList i) ⟨env,b0,H⟩ true:=by first|exact wanted_none rfl|exact wanted_is rfl rfl rfl rfl true rfl) (hi:Nat.blt i ops.size=true:=by exact rfl):AX P G ops (opsOfT ops (.one i t)) ⟨env,b0,H⟩ K:=by rw [joT_one hi];exact x_one hw h
theorem jzq {d:Nat} {v:CV} (h:ARd P G (jopG ops.toList i) ⟨env,b0,H⟩ v) (hk:AZ P G ops (opsOfT ops t) ⟨(d,v)::env,b0,H⟩ K) (hd:(jopG ops.toList i).dst=some d:=by exact rfl) (hN:Nat.blt d G.N=true:=by exact rfl) (hw:Wanted G ops (jopG ops.toList i) ⟨env,b0,H⟩ true:=by first|exact wanted_none rfl|exact wanted_is rfl rfl rfl rfl true rfl) (hi:Nat.blt i ops.size=true:=by exact rfl):AZ P G ops (opsOfT ops (.rd i t)) ⟨env,b0,H⟩ K:=by rw [joT_rd hi];exact zz_rd hw hd hN h hk
theorem jzo {d:Nat} {v:CV} (h:ARdO P G (jopG ops.toList i) ⟨env,b0,H⟩ v) (hk:AZ P G ops (opsOfT ops t) ⟨(d,v)::env,b0,H⟩ K) (hd:(jopG ops.toList i).dst=some d:=by exact rfl) (hN:Nat.blt d G.N=true:=by exact rfl) (hw:Wanted G ops (jopG ops.toList i) ⟨env,b0,H⟩ true:=by first|exact wanted_none rfl|exact wanted_is rfl rfl rfl rfl true rfl) (hb:ownB ops (jopG ops.toList i)=true:=by kernel_rfl) (hi:Nat.blt i ops.size=true:=by exact rfl):AZ P G ops (opsOfT ops (.rd i t)) ⟨env,b0,H⟩ K:=by rw [joT_rd hi];exact zz_rdO hw hd hN hb h hk
theorem jz1o {d:Nat} {v:CV} (h:ARdO P G (jopG ops.toList i) ⟨env,b0,H⟩ v) (hk:AZ P G ops (opsOfT ops t) ⟨(d,v)::env,b0,H⟩ K) (hd:(jopG ops.toList i).dst=some d:=by exact rfl) (hN:Nat.blt d G.N=true:=by exact rfl) (hw:Wanted G ops (jopG ops.toList i) ⟨env,b0,H⟩ true:=by first|exact wanted_none rfl|exact wanted_is rfl rfl rfl rfl true rfl) (hi:Nat.blt i ops.size=true:=by exact rfl):AZ P G ops (opsOfT ops (.one i t)) ⟨env,b0,H⟩ K:=by rw [joT_one hi];exact zz_one1O hw hd hN h hk
theorem jzs {d:Nat} (hk:AZ P G ops (opsOfT ops t) ⟨(d,.c undef)::env,b0,H⟩ K) (hd:(jopG ops.toList i).dst=some d:=by exact rfl) (hN:Nat.blt d G.N=true:=by exact rfl) (hw:Wanted G ops (jopG ops.toList i) ⟨env,b0,H⟩ false:=by first|exact wanted_is rfl rfl rfl rfl false rfl|exact wanted_undef rfl rfl rfl rfl) (hi:Nat.blt i ops.size=true:=by exact rfl):AZ P G ops (opsOfT ops (.rd i t)) ⟨env,b0,H⟩ K:=by rw [joT_rd hi];exact zz_skip hw hd hN hk
theorem jzs1 {d:Nat} (hk:AZ P G ops (opsOfT ops t) ⟨(d,.c undef)::env,b0,H⟩ K) (hd:(jopG ops.toList i).dst=some d:=by exact rfl) (hN:Nat.blt d G.N=true:=by exact rfl) (hw:Wanted G ops (jopG ops.toList i) ⟨env,b0,H⟩ false:=by first|exact wanted_is rfl rfl rfl rfl false rfl|exact wanted_undef rfl rfl rfl rfl) (hi:Nat.blt i ops.size=true:=by exact rfl):AZ P G ops (opsOfT ops (.one i t)) ⟨env,b0,H⟩ K:=by rw [joT_one hi];exact zz_noone hw hd hN hk
theorem jze (h:AEx P G (jopG ops.toList i) ⟨env,b0,H⟩ (fun s'=>AZ P G ops (opsOfT ops t) s' K)) (hw:Wanted G ops (jopG ops.toList i) ⟨env,b0,H⟩ true:=by first|exact wanted_none rfl|exact wanted_is rfl rfl rfl rfl true rfl) (hi:Nat.blt i ops.size=true:=by exact rfl):AZ P G ops (opsOfT ops (.one i t)) ⟨env,b0,H⟩ K:=by rw [joT_one hi];exact z_ex hw h
theorem jzm (h:AMd P G (jopG ops.toList i) ⟨env,b0,H⟩ (fun s'=>AZ P G ops (opsOfT ops t) s' K)) (hw:Wanted G ops (jopG ops.toList i) ⟨env,b0,H⟩ true:=by first|exact wanted_none rfl|exact wanted_is rfl rfl rfl rfl true rfl) (hm:isMod (jopG ops.toList i)=true:=by exact rfl) (hi:Nat.blt i ops.size=true:=by exact rfl):AZ P G ops (opsOfT ops (.one i t)) ⟨env,b0,H⟩ K:=by rw [joT_one hi];exact z_md hw hm h
theorem jyd (h:K s):AX P G ops (opsOfT ops .done) s K:=x_done h
theorem jzd (h:K s):AZ P G ops (opsOfT ops .done) s K:=z_done h
theorem jytwo {j:Nat} {u:Ord} (h1:AX P G ops (opsOfT ops (.one i t)) s K) (h2:AX P G ops (opsOfT ops (.one j u)) s K) (hi:Nat.blt i ops.size=true:=by exact rfl) (hj:Nat.blt j ops.size=true:=by exact rfl):AX P G ops (opsOfT ops (.two i t j u)) s K:=by
 rw [joT_one hi] at h1
 rw [joT_one hj] at h2
 simp only [opsOfT,jopG_at hi,jopG_at hj]
 exact x_two h1 h2
theorem jztwo {j:Nat} {u:Ord} (h1:AZ P G ops (opsOfT ops (.one i t)) s K) (h2:AZ P G ops (opsOfT ops (.one j u)) s K) (hi:Nat.blt i ops.size=true:=by exact rfl) (hj:Nat.blt j ops.size=true:=by exact rfl):AZ P G ops (opsOfT ops (.two i t j u)) s K:=by
 rw [joT_one hi] at h1
 rw [joT_one hj] at h2
 simp only [opsOfT,jopG_at hi,jopG_at hj]
 exact z_two h1 h2
end
theorem jcg {id:Nat} (h:ASeq P G ops ops.toList s (R .normal)) (hd:rdB G.rd ops=true:=by rfl):ACode P G (.region id ops false) s R:=code_region h hd
theorem jcd {id:Nat} (t:Ord) (h:AX P G ops (opsOfT ops t) s (R .normal)) (hm:P.follows .mixedOrders=true:=by kernel_rfl) (hs:Region.noSelect ops=true:=by kernel_rfl) (hl:t.len=ops.size:=by exact rfl) (hin:t.within ops.size=true:=by kernel_rfl) (hB:orderT .any ops t (Array.replicate ops.size false)=true:=by kernel_rfl) (hd:rdB G.rd ops=true:=by rfl):ACode P G (.region id ops true) s R:=code_draw t hm hs hl hin hB h hd
theorem jcdB {id:Nat} (m:Nat) (t:Ord) (h:AX P G ops (opsOfT ops t) s (fun s'=>ASeq P G ops (ops.toList.drop m) s' (R .normal))) (hmix:P.follows .mixedOrders=true:=by kernel_rfl) (hs:Region.noSelect ops=true:=by kernel_rfl) (hm:Nat.ble m ops.size=true:=by exact rfl) (hl:t.len=m:=by exact rfl) (hin:t.within ops.size=true:=by kernel_rfl) (hc:coverB .any ops m=true:=by kernel_rfl)
  (hB:orderB2 .any ops m t (Array.replicate ops.size false)=true:=by kernel_rfl) (ht:tailB .any ops (ops.size-m) m (barL m ops.size)=true:=by kernel_rfl) (hd:rdB G.rd ops=true:=by rfl) (hy:G.yl=false:=by rfl):ACode P G (.region id ops true) s R:=code_drawB m t hmix hs hm hl hin hc hB ht h hd hy
theorem jcdC {id:Nat} (m:Nat) (t u:Ord) (h:AX P G ops (opsOfT ops t) s (fun s'=>AZ P G ops (opsOfT ops u) s' (R .normal))) (hmix:P.follows .mixedOrders=true:=by kernel_rfl) (hs:Region.noSelect ops=true:=by kernel_rfl) (hm:Nat.ble m ops.size=true:=by exact rfl) (hl:t.len=m:=by exact rfl) (hin:t.within ops.size=true:=by kernel_rfl) (hc:coverB .any ops m=true:=by kernel_rfl)
  (hB:orderB2 .any ops m t (Array.replicate ops.size false)=true:=by kernel_rfl) (hul:u.len=ops.size-m:=by exact rfl) (huin:u.within ops.size=true:=by kernel_rfl) (hu:orderT .any ops u (barL m ops.size)=true:=by kernel_rfl) (hd:rdB G.rd ops=true:=by rfl):ACode P G (.region id ops true) s R:=code_drawC m t u hmix hs hm hl hin hc hB hul huin hu h hd
theorem jcdZ {id:Nat} (u:Ord) (h:AZ P G ops (opsOfT ops u) s (R .normal)) (hmix:P.follows .mixedOrders=true:=by kernel_rfl) (hs:Region.noSelect ops=true:=by kernel_rfl) (hul:u.len=ops.size:=by exact rfl) (huin:u.within ops.size=true:=by kernel_rfl) (hu:orderT .any ops u (Array.replicate ops.size false)=true:=by kernel_rfl) (hd:rdB G.rd ops=true:=by rfl):ACode P G (.region id ops true) s R:=code_drawZ u hmix hs hul huin hu h hd
theorem jcs (h:ACode P G x s (thenR (fun s'=>ACode P G y s' R) R)):ACode P G (.seq x y) s R:=code_seq h
theorem jcr {id:Nat} (h:ASeq P G ops ops.toList s (fun s'=>ACode P G y s' R)) (hd:rdB G.rd ops=true:=by rfl):ACode P G (.seq (.region id ops false) y) s R:=code_seq (code_region h hd)
theorem jtn (h:Y s):thenR Y R .normal s:=h
theorem jte {i:Nat} (h:R (.exit i) s):thenR Y R (.exit i) s:=h
theorem jtr (h:R .ret s):thenR Y R .ret s:=h
theorem jbn {i:Nat} (h:R .normal s):blockR i R .normal s:=h
theorem jbr {i:Nat} (h:R .ret s):blockR i R .ret s:=h
theorem jbx {i j:Nat} (h:R .normal s) (he:Nat.beq j i=true:=by exact rfl):blockR i R (.exit j) s:=block_exit he h
theorem jbx2 {i j:Nat} (h:R (.exit j) s) (he:Nat.beq j i=false:=by exact rfl):blockR i R (.exit j) s:=block_exit2 he h
def jCondPN (c:CV) (p n:Prop):Prop:=∃ t:Bool,c=.c (.bool t)∧(t=true→p)∧(t=false→n)
theorem jcpD {p:Prop} [Decidable p] {c:CV} (h:c=.c (.bool (decide p))):jCondPN c p (¬ p):=⟨_,h,of_decide_eq_true,of_decide_eq_false⟩
theorem jcpB {t:Bool} {c:CV} (h:c=.c (.bool t)):jCondPN c (t=true) (t=false):=⟨_,h,id,id⟩
theorem jcc {d:Nat} {p n:Prop} (ht:p→ACode P G x ⟨(d,.c (.bool true))::env,b0,H⟩ R) (hf:n→ACode P G y ⟨(d,.c (.bool false))::env,b0,H⟩ R) (hl:jCondPN (look env b0 d) p n:=by first|exact jcpD rfl|exact jcpB rfl) (hN:Nat.blt d G.N=true:=by exact rfl):ACode P G (.cond (.tmp d) x y) ⟨env,b0,H⟩ R:=by
 obtain ⟨t,h1,h2,h3⟩:=hl
 exact code_condS hN h1 (fun e=>ht (h2 e)) (fun e=>hf (h3 e))
theorem jcT {d:Operand} (h:ACode P G x s R) (hl:s.eval d=.c (.bool true):=by exact rfl):ACode P G (.cond d x y) s R:=code_condT hl h
theorem jcF {d:Operand} (h:ACode P G y s R) (hl:s.eval d=.c (.bool false):=by exact rfl):ACode P G (.cond d x y) s R:=code_condF hl h
theorem jqsp (d:Nat) {p n:Prop} (ht:p→ASeq P G ops r ⟨(d,.c (.bool true))::env,b0,H⟩ K) (hf:n→ASeq P G ops r ⟨(d,.c (.bool false))::env,b0,H⟩ K) (hl:jCondPN (look env b0 d) p n:=by first|exact jcpD rfl|exact jcpB rfl) (hN:Nat.blt d G.N=true:=by exact rfl):ASeq P G ops r ⟨env,b0,H⟩ K:=by
 obtain ⟨t,h1,h2,h3⟩:=hl
 exact seq_split hN h1 (fun e=>ht (h2 e)) (fun e=>hf (h3 e))
theorem jysp {tr:OrdO} (d:Nat) {p n:Prop} (ht:p→AX P G ops tr ⟨(d,.c (.bool true))::env,b0,H⟩ K) (hf:n→AX P G ops tr ⟨(d,.c (.bool false))::env,b0,H⟩ K) (hl:jCondPN (look env b0 d) p n:=by first|exact jcpD rfl|exact jcpB rfl) (hN:Nat.blt d G.N=true:=by exact rfl):AX P G ops tr ⟨env,b0,H⟩ K:=by
 obtain ⟨t,h1,h2,h3⟩:=hl
 exact x_split hN h1 (fun e=>ht (h2 e)) (fun e=>hf (h3 e))
theorem jzsp {tr:OrdO} (d:Nat) {p n:Prop} (ht:p→AZ P G ops tr ⟨(d,.c (.bool true))::env,b0,H⟩ K) (hf:n→AZ P G ops tr ⟨(d,.c (.bool false))::env,b0,H⟩ K) (hl:jCondPN (look env b0 d) p n:=by first|exact jcpD rfl|exact jcpB rfl) (hN:Nat.blt d G.N=true:=by exact rfl):AZ P G ops tr ⟨env,b0,H⟩ K:=by
 obtain ⟨t,h1,h2,h3⟩:=hl
 exact z_split hN h1 (fun e=>ht (h2 e)) (fun e=>hf (h3 e))

theorem jeal {n:Nat} {t:TypeId} {z:Value} {d:Nat} (hz:(P.info? t).map (·.zero)=some (some z)) (hn:z.cells.size=n) (hK:∀ g,K ⟨(d,.op H.length g 0)::env,b0,H++[(g,.blk n fun j=>.c (z.cells.getD j undef))]⟩) (ho:o.op=.alloc t:=by exact rfl) (hd:o.dst=some d:=by exact rfl) (hN:Nat.blt d G.N=true:=by exact rfl):AEx P G o ⟨env,b0,H⟩ K:=e_alloc ho hz hn hd hN hK
theorem jebx (n:Nat) {t:TypeId} {p:Operand} {c:CV} {l:List CV} {d:Nat} (hK:∀ g,K ⟨(d,.op H.length g 0)::env,b0,H++[(g,.blk n (fl l))]⟩) (ho:o.op=.box t p:=by exact rfl) (hx:(⟨env,b0,H⟩:AS).eval p=c:=by first|exact jev_t rfl|exact jev_l rfl rfl rfl|exact jev_f rfl) (hl:cellsC c=some l:=by exact rfl) (hn:l.length=n:=by exact rfl) (hd:o.dst=some d:=by exact rfl) (hN:Nat.blt d G.N=true:=by exact rfl):AEx P G o ⟨env,b0,H⟩ K:=e_box ho hx hl hn hd hN hK
theorem jebl (n m:Nat) {e t:TypeId} {z:Value} {len:Nat} {parts:Array (Nat×Operand)} {l:List CV} {d:Nat} (hz:(P.info? e).map (·.zero)=some (some z)) (hK:∀ g,K ⟨(d,.os H.length g 0 len m)::env,b0,H++[(g,.blk n (fl l))]⟩) (ho:o.op=.buildSlice t len parts:=by exact rfl) (h1:P.underlying t=some (.slice e):=by kernel_rfl) (h5:(P.info? e).map (·.size)=some m:=by kernel_rfl) (hm:Nat.ble (len * m) 16777216=true:=by exact rfl) (hlen:Nat.ble len 16777216=true:=by exact rfl)
  (hf:fillC (fun i=>some (i * m,m)) ((List.range (len * m)).map fun i=>.c (z.cells[i % z.cells.size]!)) (parts.toList.map fun p=>(p.1,(⟨env,b0,H⟩:AS).eval p.2))=some l:=by exact rfl) (hn:l.length=n:=by exact rfl) (hle:n=len * m:=by exact rfl) (hd:o.dst=some d:=by exact rfl) (hN:Nat.blt d G.N=true:=by exact rfl):AEx P G o ⟨env,b0,H⟩ K:=e_buildSlice ho h1 h5 hz hm hlen hf hn hle hd hN hK
theorem jecv {t u:TypeId} {x:Operand} {a:List UInt8} {d:Nat} (hK:K ⟨(d,bsC a)::env,b0,H⟩) (ho:o.op=.convert t u x:=by exact rfl) (hx:(⟨env,b0,H⟩:AS).eval x=strC a:=by exact rfl) (h1:P.underlying t=some .string:=by kernel_rfl) (hT:jbyT P u=true:=by kernel_rfl) (hS:a.length≤9223372036854775807:=by first|omega|decide|(dsimp only at *;omega)) (hd:o.dst=some d:=by exact rfl) (hN:Nat.blt d G.N=true:=by exact rfl):AEx P G o ⟨env,b0,H⟩ K:=by
 obtain ⟨e,h2,h3⟩:=jbyT_ok hT
 exact e_convLB ho hx h1 h2 h3 hS hd hN hK
theorem jecP {f:FuncId} {xs:Array Operand} {ats:Array TypeId} {args:List CV} {m:CV} {d:Nat} (hA:ACp G.gs P f args m) (hK:K ⟨(d,m)::env,b0,H⟩) (ho:o.op=.call ⟨.value (.func f),xs,ats⟩:=by exact rfl) (hc:calleeB P f=true:=by kernel_rfl) (he:SEL G ⟨env,b0,H⟩ xs.toList args:=by (repeat (first|exact .nil|refine .cons (by first|exact se rfl cZ|exact se rfl CEnt.nil|exact se rfl CEnt.nilB|exact se rfl (CEnt.osI rfl)|exact se rfl CEnt.opI|exact se_nilO rfl|exact se rfl (CEnt.agg2 cZ cZ)|exact se rfl (CEnt.agg3 cZ cZ cZ)|exact se rfl (CEnt.agg4 cZ cZ cZ cZ)|exact se rfl (CEnt.agg5 cZ cZ cZ cZ cZ)|exact se rfl (CEnt.agg6 cZ cZ cZ cZ cZ cZ)|exact se_frzB _ rfl rfl rfl (by simp) (fun _ _=>cZ)) ?_))) (hd:o.dst=some d:=by exact rfl) (hN:Nat.blt d G.N=true:=by exact rfl):AEx P G o ⟨env,b0,H⟩ K:=e_callP ho hc hA he hd hN hK
theorem jecS {f:FuncId} {xs:Array Operand} {ats:Array TypeId} {args:List CV} {Q:CV→List (Option Nat×Res)→Prop} {d:Nat} (hA:AC G.gs P f [] args Q) (hK:∀ r H',Q r H'→K ⟨(d,r)::env,b0,H++H'⟩) (ho:o.op=.call ⟨.value (.func f),xs,ats⟩:=by exact rfl) (hc:calleeB P f=true:=by kernel_rfl) (he:SEL G ⟨env,b0,H⟩ xs.toList args:=by (repeat (first|exact .nil|refine .cons (by first|exact se rfl cZ|exact se rfl CEnt.nil|exact se rfl CEnt.nilB|exact se rfl (CEnt.osI rfl)|exact se rfl CEnt.opI|exact se_nilO rfl|exact se rfl (CEnt.agg2 cZ cZ)|exact se rfl (CEnt.agg3 cZ cZ cZ)|exact se rfl (CEnt.agg4 cZ cZ cZ cZ)|exact se rfl (CEnt.agg5 cZ cZ cZ cZ cZ)|exact se rfl (CEnt.agg6 cZ cZ cZ cZ cZ cZ)|exact se_frzB _ rfl rfl rfl (by simp) (fun _ _=>cZ)) ?_))) (hd:o.dst=some d:=by exact rfl) (hN:Nat.blt d G.N=true:=by exact rfl):AEx P G o ⟨env,b0,H⟩ K:=e_callS ho hc hA he hd hN hK
theorem jecO {f:FuncId} {xs:Array Operand} {ats:Array TypeId} {args:List CV} {n m N:Nat} {F:Nat→CV} {d:Nat} (hA:AC G.gs P f [] args (OwnQ n m N F)) (hK:∀ g,K ⟨(d,.os H.length g 0 n m)::env,b0,H++[(g,.blk N F)]⟩) (ho:o.op=.call ⟨.value (.func f),xs,ats⟩:=by exact rfl) (hc:calleeB P f=true:=by kernel_rfl) (he:SEL G ⟨env,b0,H⟩ xs.toList args:=by (repeat (first|exact .nil|refine .cons (by first|exact se rfl cZ|exact se rfl CEnt.nil|exact se rfl CEnt.nilB|exact se rfl (CEnt.osI rfl)|exact se rfl CEnt.opI|exact se_nilO rfl|exact se rfl (CEnt.agg2 cZ cZ)|exact se rfl (CEnt.agg3 cZ cZ cZ)|exact se rfl (CEnt.agg4 cZ cZ cZ cZ)|exact se rfl (CEnt.agg5 cZ cZ cZ cZ cZ)|exact se rfl (CEnt.agg6 cZ cZ cZ cZ cZ cZ)|exact se_frzB _ rfl rfl rfl (by simp) (fun _ _=>cZ)) ?_))) (hd:o.dst=some d:=by exact rfl) (hN:Nat.blt d G.N=true:=by exact rfl):AEx P G o ⟨env,b0,H⟩ K:=e_callO ho hc hA he hd hN hK
theorem jmcH (i:Nat) {f:FuncId} {xs:Array Operand} {ats:Array TypeId} {args:List CV} {Q:CV→List (Option Nat×Res)→Prop} {d:Nat} {x0:Option Nat×Res} (hA:AC G.gs P f [x0] args Q) (hK:∀ r H',Q r H'→∃ x r',H'=[x]∧CEnt r r'∧K ⟨(d,r')::env,b0,H.set i x⟩) (hi:H[i]?=some x0:=by exact rfl) (ho:o.op=.call ⟨.value (.func f),xs,ats⟩:=by exact rfl) (hc:calleeB P f=true:=by kernel_rfl) (he:SEL G ⟨env,b0,H⟩ xs.toList args:=by (repeat (first|exact .nil|refine .cons (by first|exact se rfl cZ|exact se rfl CEnt.nil|exact se rfl CEnt.nilB|exact se rfl (CEnt.osI rfl)|exact se rfl CEnt.opI|exact se_nilO rfl|exact se rfl (CEnt.agg2 cZ cZ)|exact se rfl (CEnt.agg3 cZ cZ cZ)|exact se rfl (CEnt.agg4 cZ cZ cZ cZ)|exact se rfl (CEnt.agg5 cZ cZ cZ cZ cZ)|exact se rfl (CEnt.agg6 cZ cZ cZ cZ cZ cZ)|exact se_frzB _ rfl rfl rfl (by simp) (fun _ _=>cZ)) ?_))) (hd:o.dst=some d:=by exact rfl) (hN:Nat.blt d G.N=true:=by exact rfl):AMd P G o ⟨env,b0,H⟩ K:=m_callH ho hc hi hA he hd hN hK
theorem jmst (m:Nat) {t:TypeId} {p q:Operand} {i off n:Nat} {g:Option Nat} {f:Nat→CV} {c:CV} {l:List CV} (hK:K ⟨env,b0,H.set i (g,.blk n (updF f off l))⟩) (ho:o.op=.store t p q:=by exact rfl) (hx:(⟨env,b0,H⟩:AS).eval p=.op i g off:=by exact rfl) (hH:H[i]?=some (g,.blk n f):=by exact rfl) (hy:(⟨env,b0,H⟩:AS).eval q=c:=by first|exact jev_t rfl|exact jev_l rfl rfl rfl|exact jev_f rfl) (hl:cellsC c=some l:=by exact rfl) (hm:l.length=m:=by exact rfl) (h5:(P.info? t).map (·.size)=some m:=by kernel_rfl) (hleaf:l.all leafC=true:=by exact rfl) (hn:off+m≤n:=by first|decide|omega|(dsimp only at *;omega)) (hd:o.dst=none:=by exact rfl):AMd P G o ⟨env,b0,H⟩ K :=
 m_store ho hx hH hy hl h5 hm hleaf hn _ (fun _ _=>cZ) hd hK
theorem jmstF (m:Nat) (F:Nat→CV) {t:TypeId} {p q:Operand} {i off n:Nat} {g:Option Nat} {f:Nat→CV} {c:CV} {l:List CV} (hF:∀ j,j<n→CEnt (updF f off l j) (F j)) (hK:K ⟨env,b0,H.set i (g,.blk n F)⟩) (ho:o.op=.store t p q:=by exact rfl) (hx:(⟨env,b0,H⟩:AS).eval p=.op i g off:=by exact rfl) (hH:H[i]?=some (g,.blk n f):=by exact rfl) (hy:(⟨env,b0,H⟩:AS).eval q=c:=by first|exact jev_t rfl|exact jev_l rfl rfl rfl|exact jev_f rfl) (hl:cellsC c=some l:=by exact rfl) (hm:l.length=m:=by exact rfl) (h5:(P.info? t).map (·.size)=some m:=by kernel_rfl) (hleaf:l.all leafC=true:=by exact rfl) (hn:off+m≤n:=by first|decide|omega|(dsimp only at *;omega)) (hd:o.dst=none:=by exact rfl):AMd P G o ⟨env,b0,H⟩ K :=
 m_store ho hx hH hy hl h5 hm hleaf hn F hF hd hK
theorem javc {d:Nat} {t:TypeId} {i off n:Nat} {g:Option Nat} {f:Nat→CV} {c:CV} (h:look s.env s.b d=.op i g off:=by exact rfl) (hH:Holds s i g n f:=by first|exact .inl rfl|exact .inr rfl) (hc:f off=c:=by first|exact jflO_eq rfl|exact jfz_eq rfl) (hn:off<n:=by first|decide|omega|(dsimp only at *;omega)) (hT:jldQ P t=true:=by kernel_rfl):ARV P G s (.cell d t) c:=by
 obtain ⟨ds,h1,ha⟩:=jldQ_ok hT
 exact arv_cell h hH h1 ha hn hc
theorem javA (m:Nat) {d:Nat} {t:TypeId} {i off n:Nat} {g:Option Nat} {f:Nat→CV} (h:look s.env s.b d=.op i g off:=by exact rfl) (hH:Holds s i g n f:=by first|exact .inl rfl|exact .inr rfl) (hn:off+m≤n:=by first|decide|omega|(dsimp only at *;omega)) (hT:jtyQ P t m true=true:=by kernel_rfl):ARV P G s (.cell d t) (.agg m fun j=>f (off+j)):=by
 obtain ⟨ds,h1,ha,h5⟩:=jtyQ_ok hT
 exact arv_cellA h hH h1 ha h5 hn
theorem javt {t:Nat} {c:CV} (h:s.eval (.tmp t)=c:=by first|exact jev_t rfl|exact jev_l rfl rfl rfl|exact jev_f rfl):ARV P G s (.tmp t) c:=arv_tmp h
theorem jrt {fn:Func} {e:Exit} {v m:CV} (hres:ARes P G fn s v:=by first|exact res_1 rfl javt|exact res_2 rfl javt javt|exact res_3 rfl javt javt javt|exact res_4 rfl javt javt javt javt|exact res_0 rfl) (hv:CEnt v m:=by first|exact cZ|exact CEnt.nil) (he:e=.ret∨e=.normal:=by first|exact .inl rfl|exact .inr rfl):bodyR P G fn (fun r H=>r=m∧H=[]) e s:=end_val he hres hv
theorem jlend {α:Type} {k:Nat} {φ:α→Prop} {μ:α→Nat} {D:List Nat} {M:α→List (Nat×CV)} {Hp:α→List (Option Nat×Res)} {b1:Nat→CV} (p':α) (h1:φ p') (h2:μ p'<k) (h5:EntE s.env s.b (M p'):=by (repeat (first|exact EntE.nil|refine EntE.cons cZ ?_|refine EntE.cons (CEnt.int (by omega)) ?_))) (h7:HEnt (s.H.take (Hp p').length) (Hp p'):=by (repeat (first|exact HEnt.nil|refine HEnt.same ?_|refine HEnt.blk rfl (fun j hj=>by rcases j with _|_|_|_|_|_|_|_|j <;> first|exact cZ|exact CEnt.int (by omega)|omega) ?_)))
  (h3:BLe D b1 s.b:=by first|exact .refl|exact .nest .refl rfl rfl|exact .nest (.nest .refl rfl rfl) rfl rfl|exact .nest (.nest (.nest .refl rfl rfl) rfl rfl) rfl rfl|(repeat (first|exact .refl|refine .nest ?_ rfl rfl|refine BLe.look2 ?_ rfl))) (h4:(s.env.all fun x=>D.any (Nat.beq x.1))=true:=by exact rfl) (h6:(Hp p').length≤s.H.length:=by exact Nat.le_of_ble_eq_true rfl) :
  ∃ p',φ p'∧μ p'<k∧BLe D b1 s.b∧(s.env.all fun x=>D.any (Nat.beq x.1))=true∧EntE s.env s.b (M p')∧(Hp p').length≤s.H.length∧HEnt (s.H.take (Hp p').length) (Hp p'):=⟨p',h1,h2,h3,h4,h5,h6,h7⟩
theorem jjend {α:Type} {φ:α→Prop} {D:List Nat} {M:α→List (Nat×CV)} {Hp:α→List (Option Nat×Res)} {b1:Nat→CV} (p':α) (h1:φ p') (h5:EntE s.env s.b (M p'):=by (repeat (first|exact EntE.nil|refine EntE.cons cZ ?_|refine EntE.cons (CEnt.int (by omega)) ?_))) (h7:HEnt (s.H.take (Hp p').length) (Hp p'):=by (repeat (first|exact HEnt.nil|refine HEnt.same ?_|refine HEnt.blk rfl (fun j hj=>by rcases j with _|_|_|_|_|_|_|_|j <;> first|exact cZ|exact CEnt.int (by omega)|omega) ?_)))
  (h3:BLe D b1 s.b:=by first|exact .refl|exact .nest .refl rfl rfl|exact .nest (.nest .refl rfl rfl) rfl rfl|exact .nest (.nest (.nest .refl rfl rfl) rfl rfl) rfl rfl|(repeat (first|exact .refl|refine .nest ?_ rfl rfl|refine BLe.look2 ?_ rfl))) (h4:(s.env.all fun x=>D.any (Nat.beq x.1))=true:=by exact rfl) (h6:(Hp p').length≤s.H.length:=by exact Nat.le_of_ble_eq_true rfl) :
  ∃ p',φ p'∧BLe D b1 s.b∧(s.env.all fun x=>D.any (Nat.beq x.1))=true∧EntE s.env s.b (M p')∧(Hp p').length≤s.H.length∧HEnt (s.H.take (Hp p').length) (Hp p'):=⟨p',h1,h3,h4,h5,h6,h7⟩
end
section
variable {G:Gh} {o:Oper} {s:AS}
def jerrN:CV→Option Nat
 | .err k=>some k
 | .c .nilIface=>some 0
 | _=>none
def jerrZ (op:BinOp) (n:Nat):Option Bool:=match op with|.eql=>some (decide (n=0))|.neq=>some (decide (n≠0))|_=>none
theorem jre {op:BinOp} {x:Operand} {u:TypeId} {n:Nat} {z:Bool} (ho:o.op=.binOp op 28 x (.const .nilIface) u:=by exact rfl) (hx:jerrN (s.eval x)=some n:=by exact rfl) (hz:jerrZ op n=some z:=by exact rfl):ARd Tryz.prog G o s (.c (.bool z)):=by
 unfold jerrN at hx
 cases op <;> simp only [jerrZ,Option.some.injEq,reduceCtorEq] at hz
 all_goals subst hz
 ·split at hx
  ·rename_i h;cases hx;exact rd_eqE ho h
  ·rename_i h;cases hx;exact rd_eqE0 ho h
  ·cases hx
 ·split at hx
  ·rename_i h;cases hx;exact rd_neE ho h
  ·rename_i h;cases hx;exact rd_neE0 ho h
  ·cases hx
end
end
section
open Go.RowKit
def lch (c:UInt8):Bool:=(decide (97≤c.toNat) && decide (c.toNat≤122)) || (decide (48≤c.toNat) && decide (c.toNat≤57)) || decide (c.toNat=45)
def labM (l:List UInt8):Bool:=decide (l≠[]) && decide (l.length≤24) && decide (l.getD 0 0≠45) && decide (l.getD (l.length-1) 0≠45) && l.all lch
theorem lab_free {l:List UInt8} (h:labM l=true):(58:UInt8) ∉ l∧(47:UInt8) ∉ l∧l≠[]:=by
 simp only [labM,Bool.and_eq_true,decide_eq_true_eq,List.all_eq_true] at h
 obtain ⟨⟨⟨⟨h1,_⟩,_⟩,_⟩,h2⟩:=h
 exact ⟨fun hm=>by have:=h2 _ hm;revert this;decide,fun hm=>by have:=h2 _ hm;revert this;decide,h1⟩
abbrev S3:=Int×List UInt8×List UInt8
def wordL:List (List UInt8):=[[110,111,100,101],[119,111,114,107,108,111,97,100],[111,112,101,114,97,116,111,114],[98,111,111,116],[99,97]]
def wordM (k:Int):List UInt8:=if k<1 then [] else wordL.getD (k-1).toNat []
def rightS (s:S3):Bool:=decide (1≤s.1) && decide (s.1≤5) && labM s.2.2 && (if s.1=2 then labM s.2.1 else decide (s.2.1=[]))
theorem right_iff (s:S3):rightS s=true↔1≤s.1∧s.1≤5∧labM s.2.2=true∧(s.1=2→labM s.2.1=true)∧(s.1≠2→s.2.1=[]):=by
 simp only [rightS,Bool.and_eq_true,decide_eq_true_eq]
 by_cases h:s.1=2
 ·rw [if_pos h]
  exact ⟨fun ⟨⟨⟨a,b⟩,c⟩,d⟩=>⟨a,b,c,fun _=>d,fun e=>absurd h e⟩,fun ⟨a,b,c,d,_⟩=>⟨⟨⟨a,b⟩,c⟩,d h⟩⟩
 ·rw [if_neg h,decide_eq_true_eq]
  exact ⟨fun ⟨⟨⟨a,b⟩,c⟩,d⟩=>⟨a,b,c,fun e=>absurd e h,fun _=>d⟩,fun ⟨a,b,c,_,d⟩=>⟨⟨⟨a,b⟩,c⟩,d h⟩⟩
theorem kinds {k:Int} (h1:1≤k) (h5:k≤5):k=1∨k=2∨k=3∨k=4∨k=5:=by omega
theorem wordM_nil (k:Int):wordM k=[]↔¬ (1≤k∧k≤5):=by
 constructor
 ·intro h hk
  rcases kinds hk.1 hk.2 with rfl|rfl|rfl|rfl|rfl <;> exact absurd h (by decide)
 ·intro h
  unfold wordM
  by_cases h1:k<1
  ·rw [if_pos h1]
  ·rw [if_neg h1,List.getD_eq_getElem?_getD,List.getElem?_eq_none (by show 5≤_;omega)];rfl
theorem word_idx {k:Int} (h1:1≤k) (h5:k≤5):((wordL.idxOf (wordM k):Nat):Int)+1=k∧wordM k ∈ wordL:=by
 rcases kinds h1 h5 with rfl|rfl|rfl|rfl|rfl <;> decide
def cutM (c:UInt8):List UInt8→List UInt8×List UInt8×Bool
 | []=>([],[],false)
 | x::l=>if x=c then ([],l,true) else (x::(cutM c l).1,(cutM c l).2.1,(cutM c l).2.2)
def textS (s:S3):List UInt8:=wordM s.1++58::(if s.2.1=[] then s.2.2 else s.2.1++47::s.2.2)
def idxW (w:List UInt8):Int:=if w ∈ wordL then (wordL.idxOf w:Nat)+1 else 0
theorem idxW_bd (w:List UInt8):0≤idxW w∧idxW w≤5:=by
 unfold idxW
 split
 ·rename_i h
  have:=List.idxOf_lt_length_iff.2 h
  have e:wordL.length=5:=rfl
  omega
 ·omega
def guessT (t:List UInt8):S3 :=
 if (cutM 47 (cutM 58 t).2.1).2.2=true then (idxW (cutM 58 t).1,(cutM 47 (cutM 58 t).2.1).1,(cutM 47 (cutM 58 t).2.1).2.1) else (idxW (cutM 58 t).1,[],(cutM 58 t).2.1)
def zeroS:S3:=(0,[],[])
def parseT (t:List UInt8):S3×Nat:=if rightS (guessT t)=true∧textS (guessT t)=t then (guessT t,0) else (zeroS,9)
def asKind (t:List UInt8) (k:Int):S3 :=
 if k=2∧(cutM 47 (t.drop ((wordM k).length+1))).2.2=true then (k,(cutM 47 (t.drop ((wordM k).length+1))).1,(cutM 47 (t.drop ((wordM k).length+1))).2.1) else (k,[],t.drop ((wordM k).length+1))
def isKind (t:List UInt8) (k:Int):Prop:=(wordM k).length+1≤t.length∧t.take ((wordM k).length+1)=wordM k++[58]∧rightS (asKind t k)=true∧textS (asKind t k)=t
def oidB:List UInt8:=[49,46,51,46,57,57,57,57,46,49,46]
def oidK:List UInt8:=oidB++[49]
def oidS:List UInt8:=oidB++[50]
def oidN:List UInt8:=oidB++[51]
abbrev P2:=List UInt8×List UInt8
def partsS (s:S3):List P2:=if s.2.1=[] then [(oidK,wordM s.1),(oidN,s.2.2)] else [(oidK,wordM s.1),(oidS,s.2.1),(oidN,s.2.2)]
def stepP (s:S3) (p:P2):S3:=if p.1=oidK then (idxW p.2,s.2.1,s.2.2) else if p.1=oidS then (s.1,p.2,s.2.2) else if p.1=oidN then (s.1,s.2.1,p.2) else s
def guessP (l:List P2):S3:=l.foldl stepP zeroS
theorem guess_parts {s:S3} (h:rightS s=true):guessP (partsS s)=s:=by
 obtain ⟨h1,h5,hn,h2,hs⟩:=(right_iff s).1 h
 obtain ⟨k,sp,nm⟩:=s
 have hk:idxW (wordM k)=k:=by
  have hi:=word_idx h1 h5
  unfold idxW;rw [if_pos hi.2];exact hi.1
 have ks:oidS≠oidK:=by decide
 have kn:oidN≠oidK:=by decide
 have sn:oidN≠oidS:=by decide
 unfold partsS
 by_cases he:sp=[]
 ·subst he
  simp [guessP,stepP,hk,ks,kn,sn,zeroS]
 ·simp [guessP,stepP,hk,ks,kn,sn,zeroS,he]
def ofP (l:List P2):S3×Nat:=if rightS (guessP l)=true∧partsS (guessP l)=l then (guessP l,0) else (zeroS,9)
theorem ofP_iff (l:List P2) (s:S3):ofP l=(s,0)↔rightS s=true∧partsS s=l:=by
 constructor
 ·intro h
  unfold ofP at h
  split at h
  ·rename_i h1
   obtain ⟨rfl,_⟩:=Prod.mk.inj h
   exact h1
  ·simp at h
 ·rintro ⟨h,rfl⟩
  unfold ofP
  rw [guess_parts h,if_pos ⟨h,rfl⟩]
theorem ofP_no {l:List P2} (h:∀ s,rightS s=true→partsS s≠l):ofP l=(zeroS,9):=by
 unfold ofP
 rw [if_neg (fun h1=>h _ h1.1 h1.2)]
def asKindP (l:List P2) (k:Int):S3:=(k,(if k=2∧1<l.length then (l.getD 1 ([],[])).2 else []),(if 0<l.length then (l.getD (l.length-1) ([],[])).2 else []))
def isKindP (l:List P2) (k:Int):Prop:=rightS (asKindP l k)=true∧partsS (asKindP l k)=l
theorem isKind_parts {s:S3} (h:rightS s=true):asKindP (partsS s) s.1=s:=by
 obtain ⟨h1,h5,hn,h2,hs⟩:=(right_iff s).1 h
 obtain ⟨k,sp,nm⟩:=s
 unfold partsS asKindP
 by_cases hk2:k=2
 ·have hl:=lab_free (h2 hk2)
  simp only at hl
  subst hk2
  simp [hl.2.2]
 ·have:=hs hk2
  simp only at this
  subst this
  simp [hk2]
theorem kind_parts {l:List P2} {k:Int} (h:isKindP l k):ofP l=(asKindP l k,0):=(ofP_iff _ _).2 h
theorem no_kindP {l:List P2} (h:∀ k,1≤k→k≤5→¬ isKindP l k):ofP l=(zeroS,9):=ofP_no fun s hs e=>by
 obtain ⟨h1,h5,_⟩:=(right_iff s).1 hs
 refine h s.1 h1 h5 ?_
 rw [← e]
 unfold isKindP
 rw [isKind_parts hs]
 exact ⟨hs,rfl⟩
theorem parts_ref {s:S3} (h:rightS s=true):partsS s=if s.1=2 then [(oidK,wordM s.1),(oidS,s.2.1),(oidN,s.2.2)] else [(oidK,wordM s.1),(oidN,s.2.2)]:=by
 obtain ⟨h1,h5,hn,h2,hs⟩:=(right_iff s).1 h
 unfold partsS
 by_cases hk2:s.1=2
 ·rw [if_pos hk2,if_neg (lab_free (h2 hk2)).2.2]
 ·rw [if_neg hk2,if_pos (hs hk2)]
end
end Am
end Go.Proofs.YteolfpolmioalaaGreatDoor
namespace Go.Proofs
open Go.Shelf
def Tryz.lays169_ren:Go.Shelf.Ren:=⟨fun|169=>197|n=>n,fun|70=>240|9=>9|0=>0|72=>242|37=>22|127=>245|3=>3|5=>5|n=>n,fun|n=>n⟩
open Go.RowKit in
def Tryz.lays241_ren:Go.Shelf.Ren:=⟨fun|241=>201|277=>203|n=>n,fun|70=>240|3=>3|0=>0|72=>242|37=>22|5=>5|n=>n,fun|n=>n⟩
open Go.RowKit in
def Tryz.lays165_ren:Go.Shelf.Ren:=⟨fun|165=>195|240=>200|241=>201|276=>202|277=>203|n=>n,fun|70=>240|3=>3|0=>0|4=>4|9=>9|20=>20|72=>242|37=>22|164=>246|5=>5|n=>n,fun|n=>n⟩
open Go.RowKit in
def Tryz.lays156_ren:Go.Shelf.Ren:=⟨fun|156=>184|165=>195|166=>196|169=>197|240=>200|241=>201|276=>202|277=>203|n=>n,fun|31=>88|9=>9|3=>3|4=>4|0=>0|20=>20|72=>242|76=>128|70=>240|37=>22|75=>28|127=>245|164=>246|5=>5|80=>162|n=>n,fun|n=>n⟩
theorem Tryz.lays156:Go.Proofs.Lays.n156 Tryz.prog Tryz.lays156_ren:={
 mixed:=by kernel_rfl
 f156:=Tryz.func184.trans (congrArg some (by kernel_rfl))
 f165:=Tryz.func195.trans (congrArg some (by kernel_rfl))
 f166:=Tryz.func196.trans (congrArg some (by kernel_rfl))
 f169:=Tryz.func197.trans (congrArg some (by kernel_rfl))
 f240:=Tryz.func200.trans (congrArg some (by kernel_rfl))
 f241:=Tryz.func201.trans (congrArg some (by kernel_rfl))
 f276:=Tryz.func202.trans (congrArg some (by kernel_rfl))
 f277:=Tryz.func203.trans (congrArg some (by kernel_rfl))
 t0:=Tryz.underlying0
 a0:=Tryz.isAgg0
 z0:=Tryz.sizeOf0
 v0:=Tryz.zeroValue0
 t3:=Tryz.underlying3
 a3:=Tryz.isAgg3
 z3:=Tryz.sizeOf3
 v3:=Tryz.zeroValue3
 t4:=Tryz.underlying4
 a4:=Tryz.isAgg4
 z4:=Tryz.sizeOf4
 v4:=Tryz.zeroValue4
 t9:=Tryz.underlying9
 a9:=Tryz.isAgg9
 z9:=Tryz.sizeOf9
 v9:=Tryz.zeroValue9
 t20:=Tryz.underlying20
 a20:=Tryz.isAgg20
 z20:=Tryz.sizeOf20
 v20:=Tryz.zeroValue20
 t31:=Tryz.underlying88
 a31:=Tryz.isAgg88
 z31:=Tryz.sizeOf88
 v31:=Tryz.zeroValue88
 t37:=Tryz.underlying22
 a37:=Tryz.isAgg22
 z37:=Tryz.sizeOf22
 v37:=Tryz.zeroValue22
 t70:=Tryz.underlying240
 a70:=Tryz.isAgg240
 z70:=Tryz.sizeOf240
 v70:=Tryz.zeroValue240
 t72:=Tryz.underlying242
 a72:=Tryz.isAgg242
 z72:=Tryz.sizeOf242
 v72:=Tryz.zeroValue242
 t75:=Tryz.underlying28
 a75:=Tryz.isAgg28
 z75:=Tryz.sizeOf28
 v75:=Tryz.zeroValue28
 t76:=Tryz.underlying128
 a76:=Tryz.isAgg128
 z76:=Tryz.sizeOf128
 v76:=Tryz.zeroValue128
 t127:=Tryz.underlying245
 a127:=Tryz.isAgg245
 z127:=Tryz.sizeOf245
 v127:=Tryz.zeroValue245
 t164:=Tryz.underlying246
 a164:=Tryz.isAgg246
 z164:=Tryz.sizeOf246
 v164:=Tryz.zeroValue246 }
theorem Tryz.Builder_Extra_156:Builder.Extra Tryz.prog Tryz.lays156_ren:={
 sizeBuilder:=by kernel_rfl
 liesBuilder:=by kernel_rfl
 t5:=Tryz.underlying5
 a5:=Tryz.isAgg5
 z5:=Tryz.sizeOf5
 v5:=Tryz.zeroValue5
 infoByte:=by kernel_rfl
 cellsByte:=by kernel_rfl
 sizeByte:=by kernel_rfl
 neB5:=by decide }
open Go.RowKit in
theorem Tryz.strings_Join_none (a:Option Addr) (c:Nat) (sep:ByteArray) (w:World) :
  Calls Tryz.prog 184 #[.slice a 0 c,.string sep] w fun e w'=>e=.returned (.string ⟨#[]⟩)∧w'=w:=Any.strings_Join_none Tryz.lays156 Tryz.Builder_Extra_156 a c sep w
open Go.RowKit in
theorem Tryz.strings_Join (bk o c:Nat) (xs:List ByteArray) (sep:ByteArray) (w:World) (hcells:∀ (j:Nat) x,xs[j]?=some x→w.cell? ⟨bk,o+j,none⟩=some (.string x)) (hbk:bk<w.heap.size) (hN:xs.length≤140737488355328) (hcap:xs.length≤c) (hlen:(Lib.join (xs.map (·.data.toList)) sep.data.toList).length≤140737488355328) :
  Calls Tryz.prog 184 #[.slice (some ⟨bk,o,none⟩) xs.length c,.string sep] w fun e w'=>e=.returned (.string ⟨(Lib.join (xs.map (·.data.toList)) sep.data.toList).toArray⟩)∧Below w.heap.size w w':=Any.strings_Join Tryz.lays156 Tryz.Builder_Extra_156 bk o c xs sep w hcells hbk hN hcap hlen
def Tryz.lays128_ren:Go.Shelf.Ren:=⟨fun|128=>177|n=>n,fun|51=>208|3=>3|4=>4|46=>154|5=>5|9=>9|n=>n,fun|n=>n⟩
def Tryz.lays125_ren:Go.Shelf.Ren:=⟨fun|125=>157|128=>177|129=>178|n=>n,fun|46=>154|3=>3|51=>208|53=>173|4=>4|5=>5|9=>9|n=>n,fun|n=>n⟩
def Tryz.lays137_ren:Go.Shelf.Ren:=⟨fun|137=>84|217=>117|266=>146|n=>n,fun|9=>9|5=>5|3=>3|n=>n,fun|n=>n⟩
theorem Tryz.lays137:Go.Proofs.Lays.n137 Tryz.prog Tryz.lays137_ren:={
 mixed:=by kernel_rfl
 f137:=Tryz.func84.trans (congrArg some (by kernel_rfl))
 f217:=Tryz.func117.trans (congrArg some (by kernel_rfl))
 f266:=Tryz.func146.trans (congrArg some (by kernel_rfl))
 t3:=Tryz.underlying3
 a3:=Tryz.isAgg3
 z3:=Tryz.sizeOf3
 v3:=Tryz.zeroValue3
 t5:=Tryz.underlying5
 a5:=Tryz.isAgg5
 z5:=Tryz.sizeOf5
 v5:=Tryz.zeroValue5
 t9:=Tryz.underlying9
 a9:=Tryz.isAgg9
 z9:=Tryz.sizeOf9
 v9:=Tryz.zeroValue9 }
open Go.RowKit in
theorem Tryz.strings_IndexByte (s:ByteArray) (c:Int) (w:World) :
  Calls Tryz.prog 84 #[.string s,.int .u8 c] w fun e w'=>e=.returned (.int .i64 (Lib.indexByte s.data.toList c.toNat.toUInt8))∧w'=w:=Any.strings_IndexByte Tryz.lays137 s c w
def Tryz.lays129_ren:Go.Shelf.Ren:=⟨fun|129=>178|n=>n,fun|53=>173|3=>3|4=>4|46=>154|5=>5|9=>9|n=>n,fun|n=>n⟩
def Tryz.lays217_ren:Go.Shelf.Ren:=⟨fun|217=>117|266=>146|n=>n,fun|9=>9|5=>5|3=>3|n=>n,fun|n=>n⟩
open Go.RowKit Go.Lib in
def Tryz.lays224_ren:Go.Shelf.Ren:=⟨fun|224=>148|n=>n,fun|3=>3|n=>n,fun|n=>n⟩
open Go.RowKit Go.Lib in
def Tryz.lays314_ren:Go.Shelf.Ren:=⟨fun|314=>163|n=>n,fun|9=>9|51=>208|3=>3|4=>4|5=>5|46=>154|n=>n,fun|n=>n⟩
open Go.RowKit Go.Lib in
def Tryz.lays267_ren:Go.Shelf.Ren:=⟨fun|267=>149|314=>163|n=>n,fun|9=>9|3=>3|146=>209|51=>208|4=>4|5=>5|46=>154|n=>n,fun|n=>n⟩
open Go.RowKit Go.Lib in
def Tryz.lays219_ren:Go.Shelf.Ren:=⟨fun|219=>118|217=>117|225=>147|224=>148|267=>149|266=>146|314=>163|n=>n,fun|9=>9|3=>3|4=>4|5=>5|46=>154|146=>209|51=>208|n=>n,fun|1=>28|n=>n⟩
open Go.RowKit Go.Lib in
def Tryz.lays143_ren:Go.Shelf.Ren:=⟨fun|143=>187|219=>118|217=>117|225=>147|224=>148|267=>149|266=>146|314=>163|n=>n,fun|9=>9|3=>3|4=>4|5=>5|46=>154|146=>209|51=>208|n=>n,fun|1=>28|n=>n⟩
theorem Tryz.lays143:Go.Proofs.Lays.n143 Tryz.prog Tryz.lays143_ren:={
 mixed:=by kernel_rfl
 f143:=Tryz.func187.trans (congrArg some (by kernel_rfl))
 f217:=Tryz.func117.trans (congrArg some (by kernel_rfl))
 f219:=Tryz.func118.trans (congrArg some (by kernel_rfl))
 f224:=Tryz.func148.trans (congrArg some (by kernel_rfl))
 f225:=Tryz.func147.trans (congrArg some (by kernel_rfl))
 f266:=Tryz.func146.trans (congrArg some (by kernel_rfl))
 f267:=Tryz.func149.trans (congrArg some (by kernel_rfl))
 f314:=Tryz.func163.trans (congrArg some (by kernel_rfl))
 t3:=Tryz.underlying3
 a3:=Tryz.isAgg3
 z3:=Tryz.sizeOf3
 v3:=Tryz.zeroValue3
 t4:=Tryz.underlying4
 a4:=Tryz.isAgg4
 z4:=Tryz.sizeOf4
 v4:=Tryz.zeroValue4
 t5:=Tryz.underlying5
 a5:=Tryz.isAgg5
 z5:=Tryz.sizeOf5
 v5:=Tryz.zeroValue5
 t9:=Tryz.underlying9
 a9:=Tryz.isAgg9
 z9:=Tryz.sizeOf9
 v9:=Tryz.zeroValue9
 t46:=Tryz.underlying154
 a46:=Tryz.isAgg154
 z46:=Tryz.sizeOf154
 v46:=Tryz.zeroValue154
 t51:=Tryz.underlying208
 a51:=Tryz.isAgg208
 z51:=Tryz.sizeOf208
 v51:=Tryz.zeroValue208
 t146:=Tryz.underlying209
 a146:=Tryz.isAgg209
 z146:=Tryz.sizeOf209
 v146:=Tryz.zeroValue209
 g1:=by kernel_rfl }
open Go.RowKit Go.Lib in
theorem Tryz.strings_Index_one (s:ByteArray) (c:UInt8) (w:World) :
  Calls Tryz.prog 187 #[.string s,.string ⟨#[c]⟩] w fun e w'=>e=.returned (.int .i64 (Lib.indexByte s.data.toList c))∧w'=w:=Any.strings_Index_one Tryz.lays143 s c w
open Go.RowKit Go.Lib in
def Tryz.lays220_ren:Go.Shelf.Ren:=⟨fun|220=>85|219=>118|217=>117|225=>147|224=>148|267=>149|266=>146|314=>163|n=>n,fun|9=>9|4=>4|3=>3|5=>5|46=>154|146=>209|51=>208|n=>n,fun|1=>28|n=>n⟩
open Go.RowKit Go.Lib in
def Tryz.lays145_ren:Go.Shelf.Ren:=⟨fun|145=>50|220=>85|219=>118|217=>117|225=>147|224=>148|267=>149|266=>146|314=>163|n=>n,fun|9=>9|4=>4|59=>95|3=>3|5=>5|46=>154|146=>209|51=>208|n=>n,fun|1=>28|n=>n⟩
open Go.RowKit Go.Lib in
def Tryz.laysM219_ren:Go.Shelf.Ren:=⟨fun|219=>118|217=>117|225=>147|224=>148|267=>149|266=>146|314=>163|n=>n,fun|9=>9|3=>3|4=>4|5=>5|46=>154|146=>209|51=>208|n=>n,fun|1=>28|n=>n⟩
open Go.RowKit Go.Lib in
def Tryz.laysM143_ren:Go.Shelf.Ren:=⟨fun|143=>187|219=>118|217=>117|225=>147|224=>148|267=>149|266=>146|314=>163|n=>n,fun|9=>9|3=>3|4=>4|5=>5|46=>154|146=>209|51=>208|n=>n,fun|1=>28|n=>n⟩
open Go.RowKit Go.Lib in
def Tryz.laysM220_ren:Go.Shelf.Ren:=⟨fun|220=>85|219=>118|217=>117|225=>147|224=>148|267=>149|266=>146|314=>163|n=>n,fun|9=>9|4=>4|3=>3|5=>5|46=>154|146=>209|51=>208|n=>n,fun|1=>28|n=>n⟩
open Go.RowKit Go.Lib in
def Tryz.laysM145_ren:Go.Shelf.Ren:=⟨fun|145=>50|220=>85|219=>118|217=>117|225=>147|224=>148|267=>149|266=>146|314=>163|n=>n,fun|9=>9|4=>4|59=>95|3=>3|5=>5|46=>154|146=>209|51=>208|n=>n,fun|1=>28|n=>n⟩
open Go.RowKit Go.Lib in
def Tryz.lays206_ren:Go.Shelf.Ren:=⟨fun|206=>115|n=>n,fun|9=>9|4=>4|3=>3|n=>n,fun|n=>n⟩
open Go.RowKit Go.Lib in
def Tryz.lays99_ren:Go.Shelf.Ren:=⟨fun|99=>82|206=>115|n=>n,fun|9=>9|4=>4|3=>3|n=>n,fun|n=>n⟩
theorem Tryz.lays99:Go.Proofs.Lays.n99 Tryz.prog Tryz.lays99_ren:={
 mixed:=by kernel_rfl
 f99:=Tryz.func82.trans (congrArg some (by kernel_rfl))
 f206:=Tryz.func115.trans (congrArg some (by kernel_rfl))
 t3:=Tryz.underlying3
 a3:=Tryz.isAgg3
 z3:=Tryz.sizeOf3
 v3:=Tryz.zeroValue3
 t4:=Tryz.underlying4
 a4:=Tryz.isAgg4
 z4:=Tryz.sizeOf4
 v4:=Tryz.zeroValue4
 t9:=Tryz.underlying9
 a9:=Tryz.isAgg9
 z9:=Tryz.sizeOf9
 v9:=Tryz.zeroValue9 }
open Go.RowKit Go.Lib in
theorem Tryz.strings_HasPrefix (s p:ByteArray) (w:World) :
  Calls Tryz.prog 82 #[.string s,.string p] w fun e w'=>e=.returned (.bool (Lib.hasPrefix s.data.toList p.data.toList))∧w'=w:=Any.strings_HasPrefix Tryz.lays99 s p w
def Tryz.lays207_ren:Go.Shelf.Ren:=⟨fun|207=>116|n=>n,fun|9=>9|4=>4|3=>3|n=>n,fun|n=>n⟩
open Go.RowKit Go.Lib in
def Tryz.lays100_ren:Go.Shelf.Ren:=⟨fun|100=>83|207=>116|n=>n,fun|9=>9|4=>4|3=>3|n=>n,fun|n=>n⟩
theorem Tryz.lays100:Go.Proofs.Lays.n100 Tryz.prog Tryz.lays100_ren:={
 mixed:=by kernel_rfl
 f100:=Tryz.func83.trans (congrArg some (by kernel_rfl))
 f207:=Tryz.func116.trans (congrArg some (by kernel_rfl))
 t3:=Tryz.underlying3
 a3:=Tryz.isAgg3
 z3:=Tryz.sizeOf3
 v3:=Tryz.zeroValue3
 t4:=Tryz.underlying4
 a4:=Tryz.isAgg4
 z4:=Tryz.sizeOf4
 v4:=Tryz.zeroValue4
 t9:=Tryz.underlying9
 a9:=Tryz.isAgg9
 z9:=Tryz.sizeOf9
 v9:=Tryz.zeroValue9 }
open Go.RowKit Go.Lib in
theorem Tryz.strings_HasSuffix (s p:ByteArray) (w:World) (hs:s.size≤9223372036854775807) :
  Calls Tryz.prog 83 #[.string s,.string p] w fun e w'=>e=.returned (.bool (Lib.hasSuffix s.data.toList p.data.toList))∧w'=w:=Any.strings_HasSuffix Tryz.lays100 s p w hs
def Tryz.lays197_ren:Go.Shelf.Ren:=⟨fun|197=>186|260=>198|n=>n,fun|9=>9|21=>21|3=>3|4=>4|5=>5|105=>226|119=>230|0=>0|46=>154|139=>233|138=>232|n=>n,fun|3=>29|4=>30|n=>n⟩
open Go.RowKit Go.Lib in
def Tryz.lays260_ren:Go.Shelf.Ren:=⟨fun|260=>198|n=>n,fun|9=>9|21=>21|3=>3|4=>4|5=>5|119=>230|0=>0|46=>154|139=>233|138=>232|n=>n,fun|3=>29|4=>30|n=>n⟩
end Go.Proofs
namespace Go.Proofs.YteolfpolmioalaaGreatDoor
set_option linter.unusedVariables false
namespace Am
section
open Go.RowKit
theorem hasPre_ac {gs:List Nat} (a b:List UInt8):ACp gs Tryz.prog 82 [strC a,strC b] (.c (.bool (Lib.hasPrefix a b))) :=
 ac_old fun al w St vals hs hv hr=>by
  rw [vals2 hv,show vals.getD 0 undef=.string ⟨a.toArray⟩ from hr 0,show vals.getD 1 undef=.string ⟨b.toArray⟩ from hr 1]
  exact (Tryz.strings_HasPrefix _ _ w).mono (by rintro e w' ⟨rfl,rfl⟩;exact ⟨rfl,Below.refl _ _⟩)
theorem hasSuf_ac {gs:List Nat} (a b:List UInt8) (h:a.length≤9223372036854775807):ACp gs Tryz.prog 83 [strC a,strC b] (.c (.bool (Lib.hasSuffix a b))) :=
 ac_old fun al w St vals hs hv hr=>by
  rw [vals2 hv,show vals.getD 0 undef=.string ⟨a.toArray⟩ from hr 0,show vals.getD 1 undef=.string ⟨b.toArray⟩ from hr 1]
  exact (Tryz.strings_HasSuffix ⟨a.toArray⟩ _ w h).mono (by rintro e w' ⟨rfl,rfl⟩;exact ⟨rfl,Below.refl _ _⟩)
theorem idxB_ac {gs:List Nat} (a:List UInt8) (c:UInt8):ACp gs Tryz.prog 84 [strC a,.c (.int .u8 (c.toNat:Nat))] (.c (.int .i64 (Lib.indexByte a c))) :=
 ac_old fun al w St vals hs hv hr=>by
  rw [vals2 hv,show vals.getD 0 undef=.string ⟨a.toArray⟩ from hr 0,show vals.getD 1 undef=.int .u8 (c.toNat:Nat) from hr 1]
  exact (Tryz.strings_IndexByte _ _ w).mono (by rintro e w' ⟨rfl,rfl⟩;exact ⟨by simp,Below.refl _ _⟩)
def letL:List UInt8:=[97,98,99,100,101,102,103,104,105,106,107,108,109,110,111,112,113,114,115,116,117,118,119,120,121,122,48,49,50,51,52,53,54,55,56,57]
theorem lch_let (c:UInt8):(decide (c.toNat=45) || !decide (Lib.indexByte letL c<0))=lch c:=by
 have key:∀ n:Fin 256,(decide ((UInt8.ofNat n.val).toNat=45) || !decide (Lib.indexByte letL (UInt8.ofNat n.val)<0))=lch (UInt8.ofNat n.val):=by decide +kernel
 have:=key ⟨c.toNat,c.toNat_lt⟩
 simpa using this
theorem pre_hyp (l:List UInt8):Lib.hasPrefix l [45]=decide (l≠[]∧l.getD 0 0=45):=by
 cases l with
 | nil=>decide
 | cons a l =>
  by_cases h:a=45
  ·subst h;simp [Lib.hasPrefix]
  ·have:¬ (45:UInt8)=a:=fun e=>h e.symm
   simp [Lib.hasPrefix,List.isPrefixOf,h,this]
theorem suf_hyp (l:List UInt8):Lib.hasSuffix l [45]=decide (l≠[]∧l.getD (l.length-1) 0=45):=by
 by_cases h0:l=[]
 ·subst h0;decide
 ·obtain ⟨q,c,rfl⟩:∃ q c,l=q++[c]:=⟨l.dropLast,l.getLast h0,(List.dropLast_concat_getLast h0).symm⟩
  have e:(q++[c]).getD ((q++[c]).length-1) 0=c:=by simp [List.getD]
  rw [e]
  unfold Lib.hasSuffix
  rw [Bool.eq_iff_iff,List.isSuffixOf_iff_suffix]
  simp only [decide_eq_true_eq]
  constructor
  ·rintro ⟨t,ht⟩
   exact ⟨h0,(by have:=congrArg List.getLast? ht;simp at this;exact this.symm)⟩
  ·rintro ⟨_,rfl⟩;exact ⟨q,rfl⟩
theorem take_all {l:List UInt8} {i:Nat} (hi:i<l.length) (p:UInt8→Bool):(l.take (i+1)).all p=((l.take i).all p && p (l.getD i 0)):=by
 rw [List.take_succ_eq_append_getElem hi,List.all_append]
 simp [List.getD,hi]
theorem all_no {l:List UInt8} {i:Nat} (hi:i<l.length) (p:UInt8→Bool) (h:p (l.getD i 0)=false):l.all p=false:=by
 rw [List.all_eq_false]
 refine ⟨l[i],List.getElem_mem hi,?_⟩
 have:l.getD i 0=l[i]:=by simp [List.getD,hi]
 rw [← this,h];exact Bool.noConfusion
theorem lab_eq (l:List UInt8):labM l=(decide (l≠[]) && decide (l.length≤24) && !Lib.hasPrefix l [45] && !Lib.hasSuffix l [45] && l.all lch):=by
 unfold labM
 rw [pre_hyp,suf_hyp]
 by_cases h:l=[]
 ·simp [h]
 ·simp [h]
theorem labM_iff {l:List UInt8}:labM l=true↔1≤l.length∧l.length≤24∧(l.getD 0 0).toNat≠45∧(l.getD (l.length-1) 0).toNat≠45∧l.all lch=true:=by
 have e:∀ c:UInt8,c≠45↔c.toNat≠45:=fun c=>not_congr (by rw [← UInt8.toNat_inj];rfl)
 simp only [labM,Bool.and_eq_true,decide_eq_true_eq,e,and_assoc]
 have:l≠[]↔1≤l.length:=List.length_pos_iff.symm
 rw [this]
theorem label_ac {gs:List Nat} (l:List UInt8):ACp gs Tryz.prog 45 [strC l] (.c (.bool (labM l))):=by
 refine ac_of 37 Tryz.func45 rfl rfl rfl (fun al w0 F0 St0=>?_)
 refine jcr ?_;refine jq jrm ?_;refine jN ?_;refine jcs ?_;refine jcr ?_;refine jq jrm ?_;refine jq jrcs ?_;refine jq jrm ?_;refine jqsp 6 (fun g33=>?_) fun g33=>?_
 ·refine jqs ?_;refine jqs ?_;refine jqs ?_;refine jq jrpT ?_;refine jq jrm ?_;refine jqs ?_;refine jqs ?_;refine jq jrpT ?_;refine jq jrm ?_;refine jqs ?_;refine jqs ?_;refine jq jrpT ?_;refine jN ?_;refine jcT ?_;refine jcr ?_;refine jq jrm ?_;refine jN ?_
  refine jR (jtr (jrt (hv:=?_)))
  refine CEnt.bool ?_
  rw [lab_eq]
  (simp_all;done)
 refine jq jrm ?_;refine jq jrls ?_;refine jq jrc ?_;refine jq jrpF ?_;refine jq jrm ?_;refine jqsp 11 (fun g33_2=>?_) fun g33_2=>?_
 ·refine jqs ?_;refine jqs ?_;refine jq jrpT ?_;refine jq jrm ?_;refine jqs ?_;refine jqs ?_;refine jq jrpT ?_;refine jN ?_;refine jcT ?_;refine jcr ?_;refine jq jrm ?_;refine jN ?_
  refine jR (jtr (jrt (hv:=?_)))
  refine CEnt.bool ?_
  rw [lab_eq]
  (simp_all;omega)
 refine jq jrm ?_
 refine jqe (jecP (hasPre_ac l [45]) ?_)
 refine jq jrpF ?_;refine jq jrm ?_;refine jqsp 15 (fun g33_3=>?_) fun g33_3=>?_
 ·refine jqs ?_;refine jqs ?_;refine jq jrpT ?_;refine jN ?_;refine jcT ?_;refine jcr ?_;refine jq jrm ?_;refine jN ?_
  refine jR (jtr (jrt (hv:=?_)))
  refine CEnt.bool ?_
  rw [lab_eq]
  (simp_all;done)
 refine jq jrm ?_
 refine jqe (jecP (hasSuf_ac l [45] (by omega)) ?_)
 refine jq jrpF ?_;refine jN ?_;refine jcc (fun h33=>?_) fun h33=>?_
 ·refine jcr ?_;refine jq jrm ?_;refine jN ?_
  refine jR (jtr (jrt (hv:=?_)))
  refine CEnt.bool ?_
  rw [lab_eq]
  (simp_all;done)
 refine jS (jtn ?_)
 refine jcs ?_;refine jcr ?_;refine jq jrm ?_;refine jq jrls ?_;refine jq jrm ?_;refine jN ?_;refine jB ?_;refine l_loop (α:=Nat) [2,3,21,22,23,24,25,26,27,28,29,30,31,32,33,34,35,36] (fun i=>[(21,.c (.int .i64 (i:Nat)))]) (fun _=>[]) (fun i=>i≤l.length∧(l.take i).all lch=true) (fun i=>l.length-i) (0) ?_ (fun _=>rfl) ?_ ?_ ?_
 ·exact ⟨Nat.zero_le _,by simp⟩
 ·exact .cons cZ .nil
 ·(repeat (first|exact HEnt.nil|refine HEnt.same ?_|refine HEnt.blk rfl (fun j hj=>by rcases j with _|_|_|_|_|_|_|_|j <;> first|exact cZ|exact CEnt.int (by omega)|omega) ?_))
 ·rintro i ⟨hi,he⟩
  refine jcr ?_;refine jq jrc ?_;refine jN ?_;refine jcs ?_;refine jcc (fun h36=>?_) fun h36=>?_
  rotate_left
  ·refine jX (jte (jte (jbx (jtn ?_))))
   refine jcr ?_;refine jq jrm ?_;refine jN ?_
   refine jR (jrt (hv:=?_))
   refine CEnt.bool ?_
   have e:l.take i=l:=List.take_of_length_le (by omega)
   rw [e] at he
   rw [lab_eq,he]
   simp_all
   try omega
  refine jS (jtn ?_)
  refine jcs ?_;refine jB ?_;refine jcr ?_;refine jq jrm ?_;refine jq jrm ?_;refine jN ?_;refine jcs ?_;refine jcd (.rd 0 (.rd 1 (.rd 2 (.rd 3 (.rd 4 (.rd 5 (.rd 6 (.rd 7 (.rd 8 (.one 9 (.rd 10 (.rd 11 .done)))))))))))) ?_;refine jyq jrm ?_;refine jyq jrm ?_;refine jyq jrix ?_;refine jyq (jrix (i:=0)) ?_;refine jyq jrc ?_;refine jyq jrm ?_;refine jysp 29 (fun g37=>?_) fun g37=>?_
  rotate_left
  ·refine jys ?_;refine jys ?_;refine jys ?_;refine jys1 ?_;refine jys ?_;refine jyq jrpF ?_;refine jyd ?_;refine jtn ?_;refine jcF ?_
   refine jS (jbn (jtn ?_))
   refine jcg ?_;refine jq jra ?_;refine jq jrm ?_;refine jN ?_;refine jtn ?_
   refine jlend (i+1) ?_ ?_ (h5:=?_)
   ·refine ⟨by omega,?_⟩
    rw [take_all (by omega),he,Bool.true_and,← lch_let]
    simp_all
    try omega
   ·show l.length-(i+1)<l.length-i;omega
   ·exact .cons (CEnt.int (by omega)) .nil
  refine jyq jrm ?_;refine jyq jrm ?_;refine jyq jrix ?_
  refine jye (jecP (idxB_ac letL (l.getD i 0)) ?_)
  refine jyq jrc ?_;refine jyq jrpT ?_;refine jyd ?_;refine jtn ?_;refine jcc (fun h37=>?_) fun h37=>?_
  ·refine jcr ?_;refine jq jrm ?_;refine jN ?_
   refine jR (jbr (jtr (jtr (jbr (jtr (jrt (hv:=?_)))))))
   refine CEnt.bool ?_
   rw [lab_eq,all_no (p:=lch) (show i<l.length by omega) (by rw [← lch_let];simp_all;try omega),Bool.and_false]
  refine jS (jbn (jtn ?_))
  refine jcg ?_;refine jq jra ?_;refine jq jrm ?_;refine jN ?_;refine jtn ?_
  refine jlend (i+1) ?_ ?_ (h5:=?_)
  ·refine ⟨by omega,?_⟩
   rw [take_all (by omega),he,Bool.true_and,← lch_let]
   simp_all
   try omega
  ·show l.length-(i+1)<l.length-i;omega
  ·exact .cons (CEnt.int (by omega)) .nil
theorem rlabel_ac {gs:List Nat} (l:List UInt8):ACp gs Tryz.prog 47 [strC l] (.c (.bool (labM l))):=by
 refine ac_of 53 Tryz.func47 rfl rfl rfl (fun al w0 F0 St0=>?_)
 refine jcr ?_;refine jq jrm ?_;refine jN ?_;refine jcs ?_;refine jcr ?_;refine jq jrm ?_;refine jq jrls ?_;refine jq jrc ?_;refine jq jrm ?_;refine jqsp 8 (fun g41=>?_) fun g41=>?_
 ·refine jqs ?_;refine jqs ?_;refine jqs ?_;refine jq jrpT ?_;refine jq jrm ?_;refine jqs ?_;refine jqs ?_;refine jqs ?_;refine jq jrpT ?_;refine jq jrm ?_;refine jqs ?_;refine jqs ?_;refine jqs ?_;refine jqs ?_;refine jqs ?_;refine jqs ?_;refine jq jrpT ?_;refine jN ?_;refine jcT ?_;refine jcr ?_;refine jq jrm ?_;refine jN ?_
  refine jR (jtr (jrt (hv:=?_)))
  refine CEnt.bool ?_
  refine (Bool.eq_false_iff.2 fun h=>?_).symm
  obtain ⟨k1,k2,k3,k4,_⟩:=labM_iff.1 h
  omega
 refine jq jrm ?_;refine jq jrls ?_;refine jq jrc ?_;refine jq jrpF ?_;refine jq jrm ?_;refine jqsp 13 (fun g41_2=>?_) fun g41_2=>?_
 ·refine jqs ?_;refine jqs ?_;refine jqs ?_;refine jq jrpT ?_;refine jq jrm ?_;refine jqs ?_;refine jqs ?_;refine jqs ?_;refine jqs ?_;refine jqs ?_;refine jqs ?_;refine jq jrpT ?_;refine jN ?_;refine jcT ?_;refine jcr ?_;refine jq jrm ?_;refine jN ?_
  refine jR (jtr (jrt (hv:=?_)))
  refine CEnt.bool ?_
  refine (Bool.eq_false_iff.2 fun h=>?_).symm
  obtain ⟨k1,k2,k3,k4,_⟩:=labM_iff.1 h
  omega
 refine jq jrm ?_;refine jq (jrix (i:=0)) ?_;refine jq jrc ?_;refine jq jrpF ?_;refine jq jrm ?_;refine jqsp 18 (fun g41_3=>?_) fun g41_3=>?_
 ·refine jqs ?_;refine jqs ?_;refine jqs ?_;refine jqs ?_;refine jqs ?_;refine jqs ?_;refine jq jrpT ?_;refine jN ?_;refine jcT ?_;refine jcr ?_;refine jq jrm ?_;refine jN ?_
  refine jR (jtr (jrt (hv:=?_)))
  refine CEnt.bool ?_
  refine (Bool.eq_false_iff.2 fun h=>?_).symm
  obtain ⟨k1,k2,k3,k4,_⟩:=labM_iff.1 h
  omega
 refine jq jrm ?_;refine jq jrm ?_;refine jq jrls ?_;refine jq jra ?_;refine jq (jrix (i:=(l.length-1)) (hz:=by omega)) ?_;refine jq jrc ?_;refine jq jrpF ?_;refine jN ?_;refine jcc (fun h41=>?_) fun h41=>?_
 ·refine jcr ?_;refine jq jrm ?_;refine jN ?_
  refine jR (jtr (jrt (hv:=?_)))
  refine CEnt.bool ?_
  refine (Bool.eq_false_iff.2 fun h=>?_).symm
  obtain ⟨k1,k2,k3,k4,_⟩:=labM_iff.1 h
  omega
 refine jS (jtn ?_)
 refine jcs ?_;refine jcr ?_;refine jq jrm ?_;refine jN ?_;refine jB ?_;refine l_loop (α:=Nat) [2,3,4,26,27,28,29,30,31,32,33,34,35,36,37,38,39,40,41,42,43,44,45,46,47,48,49,50,51,52] (fun i=>[(3,.c (.int .i64 (i:Nat)))]) (fun _=>[]) (fun i=>i≤l.length∧(l.take i).all lch=true) (fun i=>l.length-i) (0) ?_ (fun _=>rfl) ?_ ?_ ?_
 ·exact ⟨Nat.zero_le _,by simp⟩
 ·exact .cons cZ .nil
 ·(repeat (first|exact HEnt.nil|refine HEnt.same ?_|refine HEnt.blk rfl (fun j hj=>by rcases j with _|_|_|_|_|_|_|_|j <;> first|exact cZ|exact CEnt.int (by omega)|omega) ?_))
 ·rintro i ⟨hi,he⟩
  refine jcs ?_;refine jcr ?_;refine jq jrm ?_;refine jq jrm ?_;refine jq jrls ?_;refine jq jrc ?_;refine jN ?_;refine jcc (fun h44=>?_) fun h44=>?_
  rotate_left
  ·refine jX (jte (jte (jbx (jtn ?_))))
   refine jcr ?_;refine jq jrm ?_;refine jN ?_
   refine jR (jrt (hv:=?_))
   refine CEnt.bool ?_
   have e:l.take i=l:=List.take_of_length_le (by omega)
   rw [e] at he
   exact (labM_iff.2 ⟨by omega,by omega,by omega,by omega,he⟩).symm
  refine jS (jtn ?_)
  refine jcs ?_;refine jB ?_;refine jcr ?_;refine jq jrm ?_;refine jq jrm ?_;refine jq jrix ?_;refine jq jrm ?_;refine jN ?_
  obtain ⟨x,hx⟩:∃ x,x=(l.getD i 0).toNat:=⟨_,rfl⟩
  refine jE (weaken 4 (.c (.int .u8 (x:Nat))) (CEnt.int (by rw [hx]))) ?_;refine jcr ?_;refine jq jrm ?_;refine jq jrc ?_;refine jq jrm ?_;refine jqsp 37 (fun g46=>?_) fun g46=>?_
  ·refine jqs ?_;refine jqs ?_;refine jq jrpT ?_;refine jq jrm ?_;refine jq jrm ?_;refine jq jrc ?_;refine jq jrm ?_;refine jqsp 44 (fun g46_2=>?_) fun g46_2=>?_
   ·refine jqs ?_;refine jqs ?_;refine jq jrpT ?_;refine jq jrpT ?_;refine jq jrm ?_;refine jq jrm ?_;refine jq jrc ?_;refine jq jrpT ?_;refine jN ?_;refine jcc (fun h46=>?_) fun h46=>?_
    ·refine jcr ?_;refine jq jrm ?_;refine jN ?_
     refine jR (jbr (jtr (jtr (jbr (jtr (jrt (hv:=?_)))))))
     refine CEnt.bool ?_
     unfold labM
     rw [all_no (p:=lch) (show i<l.length by omega) (by unfold lch;rw [← hx];simp;omega),Bool.and_false]
    refine jS (jbn (jtn ?_))
    refine jcg ?_;refine jq jrm ?_;refine jq jra ?_;refine jq jrm ?_;refine jN ?_;refine jtn ?_
    refine jlend (i+1) ?_ ?_ (h5:=?_)
    ·refine ⟨by omega,?_⟩
     rw [take_all (by omega),he,Bool.true_and]
     unfold lch
     rw [← hx]
     simp
     omega
    ·show l.length-(i+1)<l.length-i;omega
    ·exact .cons (CEnt.int (by omega)) .nil
   refine jq jrm ?_;refine jq jrc ?_;refine jq jrpF ?_;refine jq jrpT ?_;refine jq jrm ?_;refine jqsp 49 (fun g46_3=>?_) fun g46_3=>?_
   rotate_left
   ·refine jqs ?_;refine jqs ?_;refine jq jrpF ?_;refine jN ?_;refine jcF ?_
    refine jS (jbn (jtn ?_))
    refine jcg ?_;refine jq jrm ?_;refine jq jra ?_;refine jq jrm ?_;refine jN ?_;refine jtn ?_
    refine jlend (i+1) ?_ ?_ (h5:=?_)
    ·refine ⟨by omega,?_⟩
     rw [take_all (by omega),he,Bool.true_and]
     unfold lch
     rw [← hx]
     simp
     omega
    ·show l.length-(i+1)<l.length-i;omega
    ·exact .cons (CEnt.int (by omega)) .nil
   refine jq jrm ?_;refine jq jrc ?_;refine jq jrpT ?_;refine jN ?_;refine jcc (fun h46=>?_) fun h46=>?_
   ·refine jcr ?_;refine jq jrm ?_;refine jN ?_
    refine jR (jbr (jtr (jtr (jbr (jtr (jrt (hv:=?_)))))))
    refine CEnt.bool ?_
    unfold labM
    rw [all_no (p:=lch) (show i<l.length by omega) (by unfold lch;rw [← hx];simp;omega),Bool.and_false]
   refine jS (jbn (jtn ?_))
   refine jcg ?_;refine jq jrm ?_;refine jq jra ?_;refine jq jrm ?_;refine jN ?_;refine jtn ?_
   refine jlend (i+1) ?_ ?_ (h5:=?_)
   ·refine ⟨by omega,?_⟩
    rw [take_all (by omega),he,Bool.true_and]
    unfold lch
    rw [← hx]
    simp
    omega
   ·show l.length-(i+1)<l.length-i;omega
   ·exact .cons (CEnt.int (by omega)) .nil
  refine jq jrm ?_;refine jq jrc ?_;refine jq jrpF ?_;refine jq jrm ?_;refine jqsp 41 (fun g46_2=>?_) fun g46_2=>?_
  rotate_left
  ·refine jqs ?_;refine jqs ?_;refine jqs ?_;refine jqs ?_;refine jqs ?_;refine jqs ?_;refine jq jrpF ?_;refine jq jrm ?_;refine jqs ?_;refine jqs ?_;refine jq jrpF ?_;refine jN ?_;refine jcF ?_
   refine jS (jbn (jtn ?_))
   refine jcg ?_;refine jq jrm ?_;refine jq jra ?_;refine jq jrm ?_;refine jN ?_;refine jtn ?_
   refine jlend (i+1) ?_ ?_ (h5:=?_)
   ·refine ⟨by omega,?_⟩
    rw [take_all (by omega),he,Bool.true_and]
    unfold lch
    rw [← hx]
    simp
    omega
   ·show l.length-(i+1)<l.length-i;omega
   ·exact .cons (CEnt.int (by omega)) .nil
  refine jq jrm ?_;refine jq jrc ?_;refine jq jrm ?_;refine jqsp 44 (fun g46_3=>?_) fun g46_3=>?_
  ·refine jqs ?_;refine jqs ?_;refine jq jrpT ?_;refine jq jrpT ?_;refine jq jrm ?_;refine jq jrm ?_;refine jq jrc ?_;refine jq jrpT ?_;refine jN ?_;refine jcc (fun h46=>?_) fun h46=>?_
   ·refine jcr ?_;refine jq jrm ?_;refine jN ?_
    refine jR (jbr (jtr (jtr (jbr (jtr (jrt (hv:=?_)))))))
    refine CEnt.bool ?_
    unfold labM
    rw [all_no (p:=lch) (show i<l.length by omega) (by unfold lch;rw [← hx];simp;omega),Bool.and_false]
   refine jS (jbn (jtn ?_))
   refine jcg ?_;refine jq jrm ?_;refine jq jra ?_;refine jq jrm ?_;refine jN ?_;refine jtn ?_
   refine jlend (i+1) ?_ ?_ (h5:=?_)
   ·refine ⟨by omega,?_⟩
    rw [take_all (by omega),he,Bool.true_and]
    unfold lch
    rw [← hx]
    simp
    omega
   ·show l.length-(i+1)<l.length-i;omega
   ·exact .cons (CEnt.int (by omega)) .nil
  refine jq jrm ?_;refine jq jrc ?_;refine jq jrpF ?_;refine jq jrpT ?_;refine jq jrm ?_;refine jqsp 49 (fun g46_4=>?_) fun g46_4=>?_
  rotate_left
  ·refine jqs ?_;refine jqs ?_;refine jq jrpF ?_;refine jN ?_;refine jcF ?_
   refine jS (jbn (jtn ?_))
   refine jcg ?_;refine jq jrm ?_;refine jq jra ?_;refine jq jrm ?_;refine jN ?_;refine jtn ?_
   refine jlend (i+1) ?_ ?_ (h5:=?_)
   ·refine ⟨by omega,?_⟩
    rw [take_all (by omega),he,Bool.true_and]
    unfold lch
    rw [← hx]
    simp
    omega
   ·show l.length-(i+1)<l.length-i;omega
   ·exact .cons (CEnt.int (by omega)) .nil
  refine jq jrm ?_;refine jq jrc ?_;refine jq jrpT ?_;refine jN ?_;refine jcc (fun h46=>?_) fun h46=>?_
  ·refine jcr ?_;refine jq jrm ?_;refine jN ?_
   refine jR (jbr (jtr (jtr (jbr (jtr (jrt (hv:=?_)))))))
   refine CEnt.bool ?_
   unfold labM
   rw [all_no (p:=lch) (show i<l.length by omega) (by unfold lch;rw [← hx];simp;omega),Bool.and_false]
  refine jS (jbn (jtn ?_))
  refine jcg ?_;refine jq jrm ?_;refine jq jra ?_;refine jq jrm ?_;refine jN ?_;refine jtn ?_
  refine jlend (i+1) ?_ ?_ (h5:=?_)
  ·refine ⟨by omega,?_⟩
   rw [take_all (by omega),he,Bool.true_and]
   unfold lch
   rw [← hx]
   simp
   omega
  ·show l.length-(i+1)<l.length-i;omega
  ·exact .cons (CEnt.int (by omega)) .nil
end
section
variable {gs:List Nat} [OkG gs]
open Go.RowKit

def lsC (l:List (List UInt8)):CV:=.rs 1 l.length fun i _=>strC (l.getD i [])
def subjC (s:S3):CV:=.agg 3 (fl [.c (.int .i64 s.1),strC s.2.1,strC s.2.2])
def wF (j:Nat):CV:=strC (wordL.getD j [])
theorem wF_of (j:Nat) (hj:j<5):CEnt (fl [strC [110,111,100,101],strC [119,111,114,107,108,111,97,100],strC [111,112,101,114,97,116,111,114],strC [98,111,111,116],strC [99,97]] j) (wF j):=by
 rcases j with _|_|_|_|_|j <;> first|exact cZ|omega
theorem words_ac {gs:List Nat}:ACp gs Tryz.prog 44 [] (lsC wordL):=by
 refine ac_of 2 Tryz.func44 rfl rfl rfl (fun al w0 F0 St0=>?_)
 refine jcr ?_;refine jq jrm ?_;refine jN ?_;refine jcr ?_
 refine jqe (jebl 5 1 zr9 fun p1=>?_)
 refine jq jrm ?_;refine jN ?_;refine jE (blk_ent 0 (m:=5) (F:=wF) rfl (by decide) (fun _=>rfl) (fun j hj=>wF_of j hj)) ?_;refine jE (freeze 0 rfl) ?_;refine jE (thaw 0 (fun a _=>strC (wordL.getD a [])) rfl rfl (by decide) (fun a b ha hb=>CEnt.of_eq (by rw [show 0+(a * 1+b)=a by omega];rfl))) ?_
 refine jR (jrt (hv:=cZ))
theorem word_ac {gs:List Nat} (k:Int):ACp gs Tryz.prog 46 [.c (.int .i64 k)] (strC (wordM k)):=by
 refine ac_of 14 Tryz.func46 rfl rfl rfl (fun al w0 F0 St0=>?_)
 refine jcr ?_;refine jq jrm ?_;refine jN ?_;refine jcs ?_;refine jcr ?_;refine jq jrm ?_;refine jq jrc ?_;refine jq jrm ?_;refine jqsp 5 (fun g13=>?_) fun g13=>?_
 ·refine jqs ?_;refine jqs ?_;refine jq jrpT ?_;refine jN ?_;refine jcT ?_;refine jcr ?_;refine jq jrm ?_;refine jN ?_
  refine jR (jtr (jrt (hv:=?_)))
  refine CEnt.strL ?_
  unfold wordM
  by_cases h:k<1
  ·rw [if_pos h]
  ·rw [if_neg h,List.getD_eq_getElem?_getD,List.getElem?_eq_none (by show 5≤_;omega)];rfl
 refine jq jrm ?_;refine jq jrc ?_;refine jq jrpF ?_;refine jN ?_;refine jcc (fun h13=>?_) fun h13=>?_
 ·refine jcr ?_;refine jq jrm ?_;refine jN ?_
  refine jR (jtr (jrt (hv:=?_)))
  refine CEnt.strL ?_
  unfold wordM
  by_cases h:k<1
  ·rw [if_pos h]
  ·rw [if_neg h,List.getD_eq_getElem?_getD,List.getElem?_eq_none (by show 5≤_;omega)];rfl
 refine jS (jtn ?_)
 refine jcr ?_
 refine jqe (jebl 5 1 zr9 fun p1=>?_)
 refine jq jrm ?_;refine jq jra ?_;refine seq_ent (blk_ent 0 (m:=5) (F:=wF) rfl (by decide) (fun _=>rfl) (fun j hj=>wF_of j hj)) ?_;refine jq (jri (i:=(k-1).toNat) (hz:=by omega)) ?_;refine jqo jrdo ?_;refine jq jrm ?_;refine jN ?_
 refine jR (jrt (hv:=?_))
 refine CEnt.strL ?_
 unfold wordM
 rw [if_neg (by omega)]
def idxT (l:List (List UInt8)) (x:List UInt8):Int:=if x ∈ l then (l.idxOf x:Nat) else -1
theorem indexS_ac {gs:List Nat} (l:List (List UInt8)) (x:List UInt8):ACp gs Tryz.prog 48 [lsC l,strC x] (.c (.int .i64 (idxT l x))):=by
 refine ac_len 0 rfl fun hlen=>?_
 refine ac_of 19 Tryz.func48 rfl rfl rfl (fun al w0 F0 St0=>?_)
 refine jcr ?_;refine jq jrm ?_;refine jN ?_;refine jcs ?_;refine jcr ?_;refine jq jrm ?_;refine jq jrl ?_;refine jq jrm ?_;refine jN ?_;refine jB ?_;refine l_loop (α:=Nat) [4,5,8,9,10,11,12,13,14,15,16,17,18] (fun i=>[(8,.c (.int .i64 (i:Nat)))]) (fun _=>[]) (fun i=>i≤l.length∧x ∉ l.take i) (fun i=>l.length-i) (0) ?_ (fun _=>rfl) ?_ ?_ ?_
 ·exact ⟨by omega,by simp⟩
 ·(repeat (first|exact EntE.nil|refine EntE.cons cZ ?_|refine EntE.cons (CEnt.int (by omega)) ?_))
 ·(repeat (first|exact HEnt.nil|refine HEnt.same ?_|refine HEnt.blk rfl (fun j hj=>by rcases j with _|_|_|_|_|_|_|_|j <;> first|exact cZ|exact CEnt.int (by omega)|omega) ?_))
 ·rintro i ⟨hi,he⟩
  refine jcr ?_;refine jq jrc ?_;refine jN ?_;refine jcs ?_;refine jcc (fun h97=>?_) fun h97=>?_
  rotate_left
  ·refine jX (jte (jte (jbx (jtn ?_))))
   refine jcr ?_;refine jq jrm ?_;refine jN ?_
   refine jR (jrt (hv:=?_))
   refine CEnt.int ?_
   have:l.take i=l:=List.take_of_length_le (by omega)
   rw [this] at he
   unfold idxT
   rw [if_neg he]
  refine jS (jtn ?_)
  refine jcs ?_;refine jB ?_;refine jcr ?_;refine jq jrm ?_;refine jq jrm ?_;refine jN ?_;refine jcr ?_;refine jq jrm ?_;refine jq jrm ?_;refine jq jrm ?_;refine jq jri ?_;refine jq jrdr ?_;refine jq jrcs ?_;refine jN ?_;refine jcc (fun h98=>?_) fun h98=>?_
  ·refine jcr ?_;refine jq jrm ?_;refine jq jrm ?_;refine jN ?_
   refine jR (jbr (jtr (jtr (jbr (jtr (jrt (hv:=?_)))))))
   refine CEnt.int ?_
   have hlt:i<l.length:=by omega
   have e:l.getD i []=l[i]:=by simp [List.getD,hlt]
   have hm:x ∈ l:=by rw [h98,e];exact List.getElem_mem hlt
   have hx:l.idxOf x=i:=by
    have e2:l=l.take i++l[i]::l.drop (i+1):=by rw [← List.drop_eq_getElem_cons hlt,List.take_append_drop]
    rw [e2,List.idxOf_append,if_neg he,h98,e]
    rw [← List.drop_eq_getElem_cons hlt,List.drop_eq_getElem_cons hlt,List.idxOf_cons_self,List.length_take]
    omega
   unfold idxT
   rw [if_pos hm,hx]
  refine jS (jbn (jtn ?_))
  refine jcg ?_;refine jq jra ?_;refine jq jrm ?_;refine jN ?_;refine jtn ?_;refine jlend (i+1) ?_ ?_
  ·exact ⟨by omega,fun hm=>by
    rw [List.take_succ_eq_append_getElem (by omega)] at hm
    rcases List.mem_append.1 hm with h|h
    ·exact he h
    ·have e:l.getD i []=l[i]:=by simp [List.getD,show i<l.length by omega]
     simp at h
     rw [e] at h98
     exact h98 h⟩
  ·omega
theorem idx_wordL (x:List UInt8):idxT wordL x+1=idxW x:=by unfold idxT idxW;split <;> simp
theorem nright_ac {gs:List Nat} (s:S3):ACp gs Tryz.prog 17 [subjC s] (.c (.bool (rightS s))):=by
 refine ac_of 26 Tryz.func17 rfl rfl rfl (fun al w0 F0 St0=>?_)
 refine jcr ?_
 refine jqe (jebx 3 fun p1=>?_)
 refine jq jrm ?_;refine jN ?_;refine jcs ?_;refine jcr ?_;refine jq (jrfa 0 1 false) ?_;refine jqo jrdo ?_;refine jq jrc ?_;refine jq jrm ?_;refine jqsp 6 (fun g27=>?_) fun g27=>?_
 ·refine jqs ?_;refine jqs ?_;refine jqs ?_;refine jq jrpT ?_;refine jq jrm ?_;refine jqs ?_;refine jqs ?_;refine jqs ?_;refine jqs ?_;refine jq jrpT ?_;refine jN ?_;refine jcT ?_;refine jcr ?_;refine jq jrm ?_;refine jN ?_
  refine jR (jtr (jrt (hv:=?_)))
  refine CEnt.bool ?_
  unfold rightS
  (simp_all;omega)
 refine jq (jrfa 0 1 false) ?_;refine jqo jrdo ?_;refine jq jrc ?_;refine jq jrpF ?_;refine jq jrm ?_;refine jqsp 11 (fun g27_2=>?_) fun g27_2=>?_
 ·refine jqs ?_;refine jqs ?_;refine jqs ?_;refine jqs ?_;refine jq jrpT ?_;refine jN ?_;refine jcT ?_;refine jcr ?_;refine jq jrm ?_;refine jN ?_
  refine jR (jtr (jrt (hv:=?_)))
  refine CEnt.bool ?_
  unfold rightS
  (simp_all;omega)
 refine jq (jrfa 2 1 false) ?_;refine jqo jrdo ?_
 refine jqe (jecP (label_ac s.2.2) ?_)
 refine jq jrn ?_;refine jq jrpF ?_;refine jN ?_;refine jcc (fun h27=>?_) fun h27=>?_
 ·refine jcr ?_;refine jq jrm ?_;refine jN ?_
  refine jR (jtr (jrt (hv:=?_)))
  refine CEnt.bool ?_
  unfold rightS
  (simp_all;done)
 refine jS (jtn ?_)
 refine jcs ?_;refine jcr ?_;refine jq (jrfa 0 1 false) ?_;refine jqo jrdo ?_;refine jq jrc ?_;refine jN ?_;refine jcc (fun h30=>?_) fun h30=>?_
 ·refine jcr ?_;refine jq (jrfa 1 1 false) ?_;refine jqo jrdo ?_
  refine jqe (jecP (label_ac s.2.1) ?_)
  refine jq jrm ?_;refine jN ?_
  refine jR (jtr (jrt (hv:=?_)))
  refine CEnt.bool ?_
  unfold rightS
  (simp_all;done)
 refine jS (jtn ?_)
 refine jcr ?_;refine jq (jrfa 1 1 false) ?_;refine jqo jrdo ?_;refine jq jrcs ?_;refine jq jrm ?_;refine jN ?_
 refine jR (jrt (hv:=?_))
 refine CEnt.bool ?_
 unfold rightS
 (simp_all;done)
theorem rright_ac {gs:List Nat} (s:S3):ACp gs Tryz.prog 18 [subjC s] (.c (.bool (rightS s))):=by
 have hw:wordM s.1=[]↔¬ (1≤s.1∧s.1≤5):=wordM_nil s.1
 refine ac_of 22 Tryz.func18 rfl rfl rfl (fun al w0 F0 St0=>?_)
 refine jcr ?_
 refine jqe (jebx 3 fun p1=>?_)
 refine jq jrm ?_;refine jN ?_;refine jcs ?_;refine jcr ?_;refine jq (jrfa 0 1 false) ?_;refine jqo jrdo ?_
 refine jqe (jecP (word_ac s.1) ?_)
 refine jq jrcs ?_;refine jq jrm ?_;refine jqsp 7 (fun g21=>?_) fun g21=>?_
 ·refine jqs ?_;refine jqs ?_;refine jqs ?_;refine jqs ?_;refine jq jrpT ?_;refine jN ?_;refine jcT ?_;refine jcr ?_;refine jq jrm ?_;refine jN ?_
  refine jR (jtr (jrt (hv:=?_)))
  refine CEnt.bool ?_
  unfold rightS
  (simp_all;omega)
 refine jq (jrfa 2 1 false) ?_;refine jqo jrdo ?_
 refine jqe (jecP (rlabel_ac s.2.2) ?_)
 refine jq jrn ?_;refine jq jrpF ?_;refine jN ?_;refine jcc (fun h21=>?_) fun h21=>?_
 ·refine jcr ?_;refine jq jrm ?_;refine jN ?_
  refine jR (jtr (jrt (hv:=?_)))
  refine CEnt.bool ?_
  unfold rightS
  (simp_all;done)
 refine jS (jtn ?_)
 refine jcs ?_;refine jcr ?_;refine jq (jrfa 0 1 false) ?_;refine jqo jrdo ?_;refine jq jrc ?_;refine jN ?_;refine jcc (fun h24=>?_) fun h24=>?_
 ·refine jcr ?_;refine jq (jrfa 1 1 false) ?_;refine jqo jrdo ?_
  refine jqe (jecP (rlabel_ac s.2.1) ?_)
  refine jq jrm ?_;refine jN ?_
  refine jR (jtr (jrt (hv:=?_)))
  refine CEnt.bool ?_
  unfold rightS
  (simp_all;done)
 refine jS (jtn ?_)
 refine jcr ?_;refine jq (jrfa 1 1 false) ?_;refine jqo jrdo ?_;refine jq jrcs ?_;refine jq jrm ?_;refine jN ?_
 refine jR (jrt (hv:=?_))
 refine CEnt.bool ?_
 unfold rightS
 (simp_all;done)
end
section
variable {gs:List Nat} [OkG gs]
open Go.RowKit

theorem lab_len {l:List UInt8} (h:labM l=true):l.length≤24:=(labM_iff.1 h).2.1
theorem word_len (k:Int):(wordM k).length≤8:=by
 by_cases h:1≤k∧k≤5
 ·rcases kinds h.1 h.2 with rfl|rfl|rfl|rfl|rfl <;> decide
 ·rw [(wordM_nil k).2 h];simp
theorem word_get {k:Int} (h1:1≤k) (h5:k≤5):wordL.getD (k-1).toNat []=wordM k:=by unfold wordM;rw [if_neg (by omega)]
theorem right_k {s:S3} (h:rightS s=true):1≤s.1∧s.1≤5∧s.2.2.length≤24∧s.2.1.length≤24:=by
 obtain ⟨h1,h5,hn,h2,hs⟩:=(right_iff s).1 h
 refine ⟨h1,h5,lab_len hn,?_⟩
 by_cases hk:s.1=2
 ·exact lab_len (h2 hk)
 ·rw [hs hk];simp
theorem ntext_ac (s:S3):ACp gs Tryz.prog 15 [subjC s] (.tup 2 (fl [strC (if rightS s=true then textS s else []),.err (if rightS s=true then 0 else 9)])):=by
 have hwl:=word_len s.1
 refine ac_of 28 Tryz.func15 rfl rfl rfl (fun al w0 F0 St0=>?_)
 refine jcr ?_
 refine jqe (jebx 3 fun p1=>?_)
 refine jq jrm ?_;refine jq jrm ?_;refine jN ?_;refine jcs ?_;refine jcr ?_;refine jqo (jrdoA 3) ?_
 refine jqe (jecP (nright_ac s) ?_)
 refine jq jrn ?_;refine jN ?_;refine jcc (fun h70=>?_) fun h70=>?_
 ·refine jcs ?_;refine jcd (.rd 0 (.rd 1 (.rd 2 .done))) ?_;refine jyq (jrde 8) ?_;refine jyq jrm ?_;refine jyq jrm ?_;refine jyd ?_;refine jtn ?_
  refine jR (jtr (jrt (hv:=?_)))
  have hr:rightS s=false:=by simpa using h70
  exact CEnt.tup2 (CEnt.strL (by rw [if_neg (by simp [hr])])) (CEnt.errN (by rw [if_neg (by simp [hr])]))
 refine jS (jtn ?_)
 refine jcs ?_
 have hr:rightS s=true:=by simpa using h70
 obtain ⟨k1,k5,n1,n2⟩:=right_k hr
 have hg:=word_get k1 k5
 refine jcd (.rd 1 (.rd 2 (.rd 3 (.one 0 (.rd 4 (.rd 5 (.rd 6 (.rd 7 .done)))))))) ?_;refine jyq (jrfa 0 1 false) ?_;refine jyo (jrdo (hn:=by omega)) ?_;refine jyq (jra (hS:=by show _∧_;omega)) ?_
 refine jye (jecP words_ac ?_)
 refine jyq (jri (i:=(s.1-1).toNat) (hz:=by omega) (hS:=by (show _<(5:Nat);omega))) ?_;refine jyq (jrdr (hn:=by omega)) ?_;refine jyq (jras (hS:=by (rw [hg];simp;omega))) ?_;refine jyq jrm ?_;refine jyd ?_;refine jtn ?_;refine jcs ?_;refine jE (weaken 4 (strC (wordM s.1++[58])) (CEnt.strL (by rw [hg]))) ?_;refine jcr ?_;refine jq (jrfa 1 1 false) ?_;refine jqo jrdo ?_;refine jq jrcs ?_;refine jN ?_;refine jcc (fun h74=>?_) fun h74=>?_
 rotate_left
 ·refine jS (jtn ?_)
  refine jcr ?_;refine jq jrm ?_;refine jq (jrfa 2 1 false) ?_;refine jqo (jrdo (hn:=by (omega))) ?_;refine jq (jras (hS:=by ((simp;omega)))) ?_;refine jq jrm ?_;refine jq jrm ?_;refine jN ?_
  refine jR (jrt (hv:=?_))
  refine CEnt.tup2 (CEnt.strL ?_) (CEnt.nilE (by rw [if_pos hr]))
  rw [if_pos hr]
  unfold textS
  (rw [if_pos (by simpa using h74)];simp;done)
 refine jcg ?_;refine jq jrm ?_;refine jq (jrfa 1 1 false) ?_;refine jqo (jrdo (hn:=by (omega))) ?_;refine jq (jras (hS:=by ((simp;omega)))) ?_;refine jq (jras (hS:=by ((simp;omega)))) ?_;refine jq jrm ?_;refine jN ?_;refine jtn ?_;refine jcr ?_;refine jq jrm ?_;refine jq (jrfa 2 1 false) ?_;refine jqo (jrdo (hn:=by (omega))) ?_;refine jq (jras (hS:=by ((simp;omega)))) ?_;refine jq jrm ?_;refine jq jrm ?_;refine jN ?_
 refine jR (jrt (hv:=?_))
 refine CEnt.tup2 (CEnt.strL ?_) (CEnt.nilE (by rw [if_pos hr]))
 rw [if_pos hr]
 unfold textS
 (rw [if_neg h74];simp;done)
theorem CEnt.rsL {k n m:Nat} {f g:Nat→Nat→CV} (h:n=m) (hf:f=g):CEnt (.rs k n f) (.rs k m g):=by subst h hf;exact cZ
def partE (p:P2) (j:Nat):CV:=if j=0 then strC p.1 else strC p.2
def partF:List P2→Nat→CV:=rowF 2 partE ([],[])
def partsC (l:List P2):CV:=.rs 2 l.length fun i j=>partE (l.getD i ([],[])) j
theorem partF_one (p:P2) (j:Nat) (hj:j<2):CEnt (fl [strC p.1,strC p.2] j) (partF [p] j):=by
 rcases j with _|_|j <;> first|exact cZ|omega
theorem nparts_ac (s:S3):ACp gs Tryz.prog 14 [subjC s] (.tup 2 (fl [partsC (if rightS s=true then partsS s else []),.err (if rightS s=true then 0 else 9)])):=by
 have hwl:=word_len s.1
 refine ac_of 32 Tryz.func14 rfl rfl rfl (fun al w0 F0 St0=>?_)
 refine jcr ?_
 refine jqe (jebx 3 fun p1=>?_)
 refine jq jrm ?_;refine jq jrm ?_;refine jN ?_;refine jcs ?_;refine jcr ?_;refine jqo (jrdoA 3) ?_
 refine jqe (jecP (nright_ac s) ?_)
 refine jq jrn ?_;refine jN ?_;refine jcc (fun h38=>?_) fun h38=>?_
 ·refine jcs ?_;refine jcd (.rd 0 (.rd 1 (.rd 2 .done))) ?_;refine jyq (jrde 8) ?_;refine jyq jrm ?_;refine jyq jrm ?_;refine jyd ?_;refine jtn ?_
  refine jR (jtr (jrt (hv:=?_)))
  have hr:rightS s=false:=by simpa using h38
  exact CEnt.tup2 (CEnt.nilS' (by rw [if_neg (by simp [hr])];rfl)) (CEnt.errN (by rw [if_neg (by simp [hr])]))
 refine jS (jtn ?_)
 refine jcs ?_
 have hr:rightS s=true:=by simpa using h38
 obtain ⟨k1,k5,n1,n2⟩:=right_k hr
 have hg:=word_get k1 k5
 refine jcd (.rd 1 (.rd 2 (.rd 3 (.one 0 (.rd 4 (.rd 5 (.rd 6 (.one 7 (.rd 8 .done))))))))) ?_;refine jyq (jrfa 0 1 false) ?_;refine jyo (jrdo (hn:=by omega)) ?_;refine jyq (jra (hS:=by show _∧_;omega)) ?_
 refine jye (jecP words_ac ?_)
 refine jyq (jri (i:=(s.1-1).toNat) (hz:=by omega) (hS:=by (show _<(5:Nat);omega))) ?_;refine jyq (jrdr (hn:=by omega)) ?_;refine jyq (rd_build (n:=2) rfl zr91 pl91 rfl rfl) ?_
 refine jye (jebl 2 2 zr91 fun p2=>?_)
 refine jyq jrm ?_;refine jyd ?_;refine jtn ?_;refine jcs ?_;refine jE (blk_ent 1 (m:=2) (F:=partF [(oidK,wordM s.1)]) rfl (by decide) (fun _=>rfl) (fun j hj=>by rw [← hg];exact partF_one (oidK,_) j hj)) ?_;refine jcr ?_;refine jq (jrfa 1 1 false) ?_;refine jqo jrdo ?_;refine jq jrcs ?_;refine jN ?_;refine jcc (fun h42=>?_) fun h42=>?_
 rotate_left
 ·refine jS (jtn ?_)
  refine jcr ?_;refine jq jrm ?_;refine jq (jrfa 2 1 false) ?_;refine jqo jrdo ?_;refine jq (rd_build (n:=2) rfl zr91 pl91 rfl rfl) ?_
  refine jqe (jebl 2 2 zr91 fun p3=>?_)
  refine jqm (m_appendC (rowC_row 2 partE ([],[])) (l2:=[(oidN,s.2.2)]) rfl rfl rfl rfl (by exact Nat.le_refl _) (fun _ _=>cZ) (src_os rfl (.inl rfl) (by decide)) rfl (fun j hj=>by rcases j with _|_|j <;> first|exact cZ|exact CEnt.int (by omega)|(exfalso;simp at hj <;> omega)) Tryz.underlying38 nu38 sz91 zr91 by91 rfl (by (simp;done)) (by (simp;done)) (leaf_flk rfl rfl) rfl rfl rfl (fun p4=>?_))
  refine jq jrm ?_;refine jq jrm ?_;refine jN ?_;refine jE (freeze 1 rfl) ?_;refine jE (thaw 2 (fun i j=>partE ((partsS s).getD i ([],[])) j) rfl rfl (by exact Nat.le_refl _) (fun a b ha hb=>CEnt.of_eq (by rw [Nat.zero_add];refine (rowF_at (k:=2) hb).trans ?_;unfold partsS;(rw [if_pos (by simpa using h42)];rfl)))) ?_
  refine jR (jrt (hv:=?_))
  refine CEnt.tup2 (CEnt.rsL ?_ ?_) (CEnt.nilE (by rw [if_pos hr]))
  ·rw [if_pos hr];unfold partsS;(rw [if_pos (by simpa using h42)];rfl)
  ·rw [if_pos hr]
 refine jcg ?_;refine jq jrm ?_;refine jq (jrfa 1 1 false) ?_;refine jqo jrdo ?_;refine jq (rd_build (n:=2) rfl zr91 pl91 rfl rfl) ?_
 refine jqe (jebl 2 2 zr91 fun p3=>?_)
 refine jqm (m_appendC (rowC_row 2 partE ([],[])) (l2:=[(oidS,s.2.1)]) rfl rfl rfl rfl (by exact Nat.le_refl _) (fun _ _=>cZ) (src_os rfl (.inl rfl) (by decide)) rfl (fun j hj=>by rcases j with _|_|j <;> first|exact cZ|exact CEnt.int (by omega)|(exfalso;simp at hj <;> omega)) Tryz.underlying38 nu38 sz91 zr91 by91 rfl (by (simp;done)) (by (simp;done)) (leaf_flk rfl rfl) rfl rfl rfl (fun p4=>?_))
 refine jq jrm ?_;refine jN ?_;refine jtn ?_;refine jcr ?_;refine jq jrm ?_;refine jq (jrfa 2 1 false) ?_;refine jqo jrdo ?_;refine jq (rd_build (n:=2) rfl zr91 pl91 rfl rfl) ?_
 refine jqe (jebl 2 2 zr91 fun p5=>?_)
 refine jqm (m_appendC (rowC_row 2 partE ([],[])) (l2:=[(oidN,s.2.2)]) rfl rfl rfl rfl (by exact Nat.le_refl _) (fun _ _=>cZ) (src_os rfl (.inl rfl) (by decide)) rfl (fun j hj=>by rcases j with _|_|j <;> first|exact cZ|exact CEnt.int (by omega)|(exfalso;simp at hj <;> omega)) Tryz.underlying38 nu38 sz91 zr91 by91 rfl (by (simp;done)) (by (simp;done)) (leaf_flk rfl rfl) rfl rfl rfl (fun p6=>?_))
 refine jq jrm ?_;refine jq jrm ?_;refine jN ?_;refine jE (freeze 1 rfl) ?_;refine jE (thaw 2 (fun i j=>partE ((partsS s).getD i ([],[])) j) rfl rfl (by exact Nat.le_refl _) (fun a b ha hb=>CEnt.of_eq (by rw [Nat.zero_add];refine (rowF_at (k:=2) hb).trans ?_;unfold partsS;(rw [if_neg h42];rfl)))) ?_
 refine jR (jrt (hv:=?_))
 refine CEnt.tup2 (CEnt.rsL ?_ ?_) (CEnt.nilE (by rw [if_pos hr]))
 ·rw [if_pos hr];unfold partsS;(rw [if_neg h42];rfl)
 ·rw [if_pos hr]
theorem rparts_ac {gs:List Nat} (s:S3) (hr:rightS s=true):ACp gs Tryz.prog 22 [subjC s] (partsC (partsS s)):=by
 have hp:=parts_ref hr
 refine ac_of 24 Tryz.func22 rfl rfl rfl (fun al w0 F0 St0=>?_)
 refine jcr ?_
 refine jqe (jebx 3 fun p1=>?_)
 refine jq jrm ?_;refine jN ?_;refine jcr ?_;refine jq (jrfa 0 1 false) ?_;refine jqo jrdo ?_
 refine jqe (jecP (word_ac s.1) ?_)
 refine jq (rd_build (n:=2) rfl zr91 pl91 rfl rfl) ?_
 refine jqe (jebl 2 2 zr91 fun p2=>?_)
 refine jq jrm ?_;refine jN ?_;refine jcs ?_;refine jE (blk_ent 1 (m:=2) (F:=partF [(oidK,wordM s.1)]) rfl (by decide) (fun _=>rfl) (fun j hj=>partF_one (oidK,_) j hj)) ?_;refine jcr ?_;refine jq (jrfa 0 1 false) ?_;refine jqo jrdo ?_;refine jq jrc ?_;refine jN ?_;refine jcc (fun h33=>?_) fun h33=>?_
 rotate_left
 ·refine jS (jtn ?_)
  refine jcr ?_;refine jq jrm ?_;refine jq (jrfa 2 1 false) ?_;refine jqo jrdo ?_;refine jq (rd_build (n:=2) rfl zr91 pl91 rfl rfl) ?_
  refine jqe (jebl 2 2 zr91 fun p3=>?_)
  refine jqm (m_appendC (rowC_row 2 partE ([],[])) (l2:=[(oidN,s.2.2)]) rfl rfl rfl rfl (by exact Nat.le_refl _) (fun _ _=>cZ) (src_os rfl (.inl rfl) (by decide)) rfl (fun j hj=>by rcases j with _|_|j <;> first|exact cZ|exact CEnt.int (by omega)|(exfalso;simp at hj <;> omega)) Tryz.underlying38 nu38 sz91 zr91 by91 rfl (by (simp;done)) (by (simp;done)) (leaf_flk rfl rfl) rfl rfl rfl (fun p4=>?_))
  refine jq jrm ?_;refine jN ?_;refine jE (freeze 1 rfl) ?_;refine jE (thaw 2 (fun i j=>partE ((partsS s).getD i ([],[])) j) rfl rfl (by exact Nat.le_refl _) (fun a b ha hb=>CEnt.of_eq (by rw [Nat.zero_add];refine (rowF_at (k:=2) hb).trans ?_;rw [hp];(rw [if_neg h33];rfl)))) ?_
  refine jR (jrt (hv:=?_))
  refine CEnt.rsL ?_ rfl
  rw [hp];(rw [if_neg h33];rfl)
 refine jcg ?_;refine jq jrm ?_;refine jq (jrfa 1 1 false) ?_;refine jqo jrdo ?_;refine jq (rd_build (n:=2) rfl zr91 pl91 rfl rfl) ?_
 refine jqe (jebl 2 2 zr91 fun p3=>?_)
 refine jqm (m_appendC (rowC_row 2 partE ([],[])) (l2:=[(oidS,s.2.1)]) rfl rfl rfl rfl (by exact Nat.le_refl _) (fun _ _=>cZ) (src_os rfl (.inl rfl) (by decide)) rfl (fun j hj=>by rcases j with _|_|j <;> first|exact cZ|exact CEnt.int (by omega)|(exfalso;simp at hj <;> omega)) Tryz.underlying38 nu38 sz91 zr91 by91 rfl (by (simp;done)) (by (simp;done)) (leaf_flk rfl rfl) rfl rfl rfl (fun p4=>?_))
 refine jq jrm ?_;refine jN ?_;refine jtn ?_;refine jcr ?_;refine jq jrm ?_;refine jq (jrfa 2 1 false) ?_;refine jqo jrdo ?_;refine jq (rd_build (n:=2) rfl zr91 pl91 rfl rfl) ?_
 refine jqe (jebl 2 2 zr91 fun p5=>?_)
 refine jqm (m_appendC (rowC_row 2 partE ([],[])) (l2:=[(oidN,s.2.2)]) rfl rfl rfl rfl (by exact Nat.le_refl _) (fun _ _=>cZ) (src_os rfl (.inl rfl) (by decide)) rfl (fun j hj=>by rcases j with _|_|j <;> first|exact cZ|exact CEnt.int (by omega)|(exfalso;simp at hj <;> omega)) Tryz.underlying38 nu38 sz91 zr91 by91 rfl (by (simp;done)) (by (simp;done)) (leaf_flk rfl rfl) rfl rfl rfl (fun p6=>?_))
 refine jq jrm ?_;refine jN ?_;refine jE (freeze 1 rfl) ?_;refine jE (thaw 2 (fun i j=>partE ((partsS s).getD i ([],[])) j) rfl rfl (by exact Nat.le_refl _) (fun a b ha hb=>CEnt.of_eq (by rw [Nat.zero_add];refine (rowF_at (k:=2) hb).trans ?_;rw [hp];(rw [if_pos h33];rfl)))) ?_
 refine jR (jrt (hv:=?_))
 refine CEnt.rsL ?_ rfl
 rw [hp];(rw [if_pos h33];rfl)
theorem p2_getD {l:List P2} {i:Nat} (h:i<l.length):l.getD i ([],[])=l[i]:=by simp [List.getD,h]
theorem equalP_ac {gs:List Nat} (l r:List P2):ACp gs Tryz.prog 49 [partsC l,partsC r] (.c (.bool (decide (l=r)))):=by
 refine ac_len 0 rfl fun hlen=>?_
 refine ac_of 26 Tryz.func49 rfl rfl rfl (fun al w0 F0 St0=>?_)
 refine jcr ?_;refine jq jrm ?_;refine jN ?_;refine jcs ?_;refine jcr ?_;refine jq jrm ?_;refine jq jrl ?_;refine jq jrm ?_;refine jq jrl ?_;refine jq jrc ?_;refine jN ?_;refine jcc (fun h21=>?_) fun h21=>?_
 ·refine jcr ?_;refine jq jrm ?_;refine jN ?_
  refine jR (jtr (jrt (hv:=?_)))
  refine CEnt.bool ?_
  refine (decide_eq_false fun h=>?_).symm
  rw [h] at h21;omega
 refine jS (jtn ?_)
 refine jcs ?_;refine jcr ?_;refine jq jrm ?_;refine jq jrl ?_;refine jq jrm ?_;refine jN ?_;refine jB ?_;refine l_loop (α:=Nat) [4,5,13,14,15,16,17,18,19,20,21,22,23,24,25] (fun i=>[(13,.c (.int .i64 (i:Nat)))]) (fun _=>[]) (fun i=>i≤l.length∧l.take i=r.take i) (fun i=>l.length-i) (0) ?_ (fun _=>rfl) ?_ ?_ ?_
 ·exact ⟨by omega,by simp⟩
 ·(repeat (first|exact EntE.nil|refine EntE.cons cZ ?_|refine EntE.cons (CEnt.int (by omega)) ?_))
 ·(repeat (first|exact HEnt.nil|refine HEnt.same ?_|refine HEnt.blk rfl (fun j hj=>by rcases j with _|_|_|_|_|_|_|_|j <;> first|exact cZ|exact CEnt.int (by omega)|omega) ?_))
 ·rintro i ⟨hi,he⟩
  refine jcr ?_;refine jq jrc ?_;refine jN ?_;refine jcs ?_;refine jcc (fun h24=>?_) fun h24=>?_
  rotate_left
  ·refine jX (jte (jte (jbx (jtn ?_))))
   refine jcr ?_;refine jq jrm ?_;refine jN ?_
   refine jR (jrt (hv:=?_))
   refine CEnt.bool ?_
   refine (decide_eq_true ?_).symm
   have e1:l.take i=l:=List.take_of_length_le (by omega)
   have e2:r.take i=r:=List.take_of_length_le (by omega)
   rw [← e1,he,e2]
  refine jS (jtn ?_)
  refine jcs ?_;refine jB ?_;refine jcr ?_;refine jq jrm ?_;refine jq jrm ?_;refine jN ?_;refine jcs ?_;refine jcd (.rd 0 (.rd 1 (.rd 2 (.rd 3 (.rd 4 (.rd 5 (.rd 6 (.rd 7 (.rd 8 .done))))))))) ?_;refine jyq jrm ?_;refine jyq jrm ?_;refine jyq jri ?_;refine jyq (jrdrA 2) ?_;refine jyq jrm ?_;refine jyq jrm ?_;refine jyq jri ?_;refine jyq (jrdrA 2) ?_;refine jyq (rd_neAgg rfl rfl rfl Tryz.underlying91 (by kernel_rfl) (by kernel_rfl) (.str Tryz.underlying9 (by decide) rfl rfl (.str Tryz.underlying9 (by decide) rfl rfl .nil)) rfl) ?_;refine jyd ?_;refine jtn ?_;refine jcc (fun h25=>?_) fun h25=>?_
  ·refine jcr ?_;refine jq jrm ?_;refine jN ?_
   refine jR (jbr (jtr (jtr (jbr (jtr (jrt (hv:=?_)))))))
   refine CEnt.bool ?_
   refine (decide_eq_false fun h=>h25 ?_).symm
   rw [h];simp
  refine jS (jbn (jtn ?_))
  refine jcg ?_;refine jq jra ?_;refine jq jrm ?_;refine jN ?_;refine jtn ?_;refine jlend (i+1) ?_ ?_
  ·refine ⟨by omega,?_⟩
   rw [List.take_succ_eq_append_getElem (show i<l.length by omega),List.take_succ_eq_append_getElem (show i<r.length by omega),he,← p2_getD,← p2_getD]
   have h25':(l.getD i ([],[]))=(r.getD i ([],[])):=by
    have:=Classical.byContradiction h25
    exact Prod.ext (ba_inj.1 this.1) (ba_inj.1 this.2.1)
   rw [h25']
  ·omega
end
end Am
end Go.Proofs.YteolfpolmioalaaGreatDoor
