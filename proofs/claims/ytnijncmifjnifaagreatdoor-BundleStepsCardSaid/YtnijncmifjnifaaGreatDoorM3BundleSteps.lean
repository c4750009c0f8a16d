/- What the law leans on, part 3 -/
import Derived.Test.YtnijncmifjnifaaGreatDoorM2BundleSteps
import Derived.Laws.StructEq
import Derived.Laws.RangeString
import Derived.Shelf.Abstract
set_option maxRecDepth 100000
variable {gs:List Nat}
open Go.Proofs.Tryz
namespace Go.Proofs.YtnijncmifjnifaaGreatDoor
set_option linter.unusedVariables false
namespace Am
open Go.RowKit
section
variable {P:Program} {G:Gh} {ops:Array Oper} {o:Oper} {s:AS} {r:List Oper} {K:AS→Prop} {R:Exit→AS→Prop} {Y:AS→Prop} {x y:Code}
theorem rS {i j:Nat} (he:Nat.beq j i=true) (h:R .normal s):f1 i R (.exit j) s:=by
 show match Nat.beq j i with|true=>R .normal s|false=>R (.exit j) s
 rw [he];exact h
theorem qF {i j:Nat} (he:Nat.beq j i=false) (h:R (.exit j) s):f1 i R (.exit j) s:=by
 show match Nat.beq j i with|true=>R .normal s|false=>R (.exit j) s
 rw [he];exact h
theorem rM {d:Operand} (hl:s.eval d=.c (.bool true)) (ht:ap P G x s R):ap P G (.cond d x y) s R:=ku hl (fun _=>ht) (fun h=>by cases h)
theorem rO {d:Operand} (hl:s.eval d=.c (.bool false)) (hf:ap P G y s R):ap P G (.cond d x y) s R:=ku hl (fun h=>by cases h) (fun _=>hf)
variable {env:List (Nat×CV)} {b0:Nat→CV} {H:List (Option Nat×av)}
theorem Er {d:Nat} {v:CV} (hw:aj G ops o ⟨env,b0,H⟩ true) (hd:o.dst=some d) (hN:Nat.blt d G.N=true) (h:aN P G o ⟨env,b0,H⟩ v) (hk:bm P G ops r ⟨(d,v)::env,b0,H⟩ K):bm P G ops (o::r) ⟨env,b0,H⟩ K :=
 Bq hw (by simp only [aJ,hd];exact hN) h (by simp only [AS.put,hd];exact hk)
theorem Dn {d:Nat} {v:CV} (hw:aj G ops o ⟨env,b0,H⟩ true) (hd:o.dst=some d) (hN:Nat.blt d G.N=true) (h:gi P G o ⟨env,b0,H⟩ v) (hk:bm P G ops r ⟨(d,v)::env,b0,H⟩ K):bm P G ops (o::r) ⟨env,b0,H⟩ K :=
 sc hw (by simp only [aJ,hd];exact hN) h (by simp only [AS.put,hd];exact hk)
theorem BT {d:Nat} (hw:aj G ops o ⟨env,b0,H⟩ false) (hd:o.dst=some d) (hN:Nat.blt d G.N=true) (hk:bm P G ops r ⟨(d,.c undef)::env,b0,H⟩ K):bm P G ops (o::r) ⟨env,b0,H⟩ K :=
 vu hw (by simp only [aJ,hd];exact hN) (by simp only [AS.put,hd];exact hk)
theorem El {d:Nat} {v:CV} {tr:bu} (hw:aj G ops o ⟨env,b0,H⟩ true) (hd:o.dst=some d) (hN:Nat.blt d G.N=true) (h:aN P G o ⟨env,b0,H⟩ v) (hk:AX P G ops tr ⟨(d,v)::env,b0,H⟩ K):AX P G ops (.rd o tr) ⟨env,b0,H⟩ K :=
 Em hw (by simp only [aJ,hd];exact hN) h (by simp only [AS.put,hd];exact hk)
theorem C1 {d:Nat} {v:CV} {tr:bu} (hw:aj G ops o ⟨env,b0,H⟩ true) (hd:o.dst=some d) (hN:Nat.blt d G.N=true) (h:gi P G o ⟨env,b0,H⟩ v) (hk:AX P G ops tr ⟨(d,v)::env,b0,H⟩ K):AX P G ops (.rd o tr) ⟨env,b0,H⟩ K :=
 Ay hw (by simp only [aJ,hd];exact hN) h (by simp only [AS.put,hd];exact hk)
theorem CU {d:Nat} {v:CV} {tr:bu} (hw:aj G ops o ⟨env,b0,H⟩ true) (hd:o.dst=some d) (hN:Nat.blt d G.N=true) (h:aN P G o ⟨env,b0,H⟩ v) (hk:AZ P G ops tr ⟨(d,v)::env,b0,H⟩ K):AZ P G ops (.rd o tr) ⟨env,b0,H⟩ K :=
 Ej hw (by simp only [aJ,hd];exact hN) h (by simp only [AS.put,hd];exact hk)
theorem u4 {d:Nat} {v:CV} {tr:bu} (hw:aj G ops o ⟨env,b0,H⟩ true) (hd:o.dst=some d) (hN:Nat.blt d G.N=true) (h:gi P G o ⟨env,b0,H⟩ v) (hk:AZ P G ops tr ⟨(d,v)::env,b0,H⟩ K):AZ P G ops (.one o tr) ⟨env,b0,H⟩ K :=
 yg hw (by simp only [aJ,hd];exact hN) h (by simp only [AS.put,hd];exact hk)
theorem A7 {d:Nat} {v:CV} {tr:bu} (hw:aj G ops o ⟨env,b0,H⟩ true) (hd:o.dst=some d) (hN:Nat.blt d G.N=true) (hb:y6 ops o=true) (h:gi P G o ⟨env,b0,H⟩ v) (hk:AZ P G ops tr ⟨(d,v)::env,b0,H⟩ K):AZ P G ops (.rd o tr) ⟨env,b0,H⟩ K :=
 CZ hw (by simp only [aJ,hd];exact hN) hb h (by simp only [AS.put,hd];exact hk)
theorem yf {d:Nat} {tr:bu} (hw:aj G ops o ⟨env,b0,H⟩ false) (hd:o.dst=some d) (hN:Nat.blt d G.N=true) (hk:AZ P G ops tr ⟨(d,.c undef)::env,b0,H⟩ K):AZ P G ops (.rd o tr) ⟨env,b0,H⟩ K :=
 Ba hw (by simp only [aJ,hd];exact hN) (by simp only [AS.put,hd];exact hk)
theorem Bc {d:Nat} {tr:bu} (hw:aj G ops o ⟨env,b0,H⟩ false) (hd:o.dst=some d) (hN:Nat.blt d G.N=true) (hk:AX P G ops tr ⟨(d,.c undef)::env,b0,H⟩ K):AX P G ops (.rd o tr) ⟨env,b0,H⟩ K :=
 Be hw (by simp only [aJ,hd];exact hN) (by simp only [AS.put,hd];exact hk)
theorem yk {d:Nat} {tr:bu} (hw:aj G ops o ⟨env,b0,H⟩ false) (hd:o.dst=some d) (hN:Nat.blt d G.N=true) (hk:AX P G ops tr ⟨(d,.c undef)::env,b0,H⟩ K):AX P G ops (.one o tr) ⟨env,b0,H⟩ K :=
 yo hw (by simp only [aJ,hd];exact hN) (by simp only [AS.put,hd];exact hk)
theorem d9 {j d:Nat} {b:Bool} (h:o.guard=some (j,b)) (hd:(ops[j]?).bind (·.dst)=some d) (hN:Nat.blt d G.N=true) (hl:look s.env s.b d=.c undef):aj G ops o s false:=fun St a w hr=>by
 have hlt:d<a.tmps.size:=by rw [hr.sz];exact FS hN
 have he:=hr.env d
 rw [hl] at he
 have he:a.tmps.getD d undef=undef:=he
 have hg:a.tmps[d]?=some undef:=by
  rw [FP hlt]
  congr 1
  simpa [hlt] using he
 simp only [Region.wanted,h,yielded,hd,Option.bind_some,hg]
 cases b<;>rfl
theorem gY {d:Nat} {t:Bool} (hN:Nat.blt d G.N=true) (hl:look s.env s.b d=.c (.bool t)) {b:Bool} (e:t=b):aZ G s ⟨(d,.c (.bool b))::s.env,s.b,s.H⟩ :=
 aZ.put hN fun St a w hr=>by
  have:=hr.env d
  rw [hl,e] at this
  exact this
theorem rN {d:Nat} {t:Bool} (hN:Nat.blt d G.N=true) (hl:look s.env s.b d=.c (.bool t)) (ht:t=true→ap P G x ⟨(d,.c (.bool true))::s.env,s.b,s.H⟩ R) (hf:t=false→ap P G y ⟨(d,.c (.bool false))::s.env,s.b,s.H⟩ R):ap P G (.cond (.tmp d) x y) s R :=
 ku (t:=t) hl (fun e=>jE (gY hN hl e) (ht e)) (fun e=>jE (gY hN hl e) (hf e))
theorem tI {d:Nat} {t:Bool} (hN:Nat.blt d G.N=true) (hl:look s.env s.b d=.c (.bool t)) (ht:t=true→bm P G ops r ⟨(d,.c (.bool true))::s.env,s.b,s.H⟩ K) (hf:t=false→bm P G ops r ⟨(d,.c (.bool false))::s.env,s.b,s.H⟩ K):bm P G ops r s K:=by
 cases e:t with
 | true=>exact bY (gY hN hl e) (ht e)
 | false=>exact bY (gY hN hl e) (hf e)
theorem yn {d:Nat} {t:Bool} {tr:bu} (hN:Nat.blt d G.N=true) (hl:look s.env s.b d=.c (.bool t)) (ht:t=true→AX P G ops tr ⟨(d,.c (.bool true))::s.env,s.b,s.H⟩ K) (hf:t=false→AX P G ops tr ⟨(d,.c (.bool false))::s.env,s.b,s.H⟩ K):AX P G ops tr s K:=by
 cases e:t with
 | true=>exact iy (gY hN hl e) (ht e)
 | false=>exact iy (gY hN hl e) (hf e)
def Ed:IntKind→Int→Prop
 | .i64,z=>-9223372036854775808≤z∧z≤9223372036854775807
 | .u64,z=>0≤z∧z≤18446744073709551615
 | .i32,z=>-2147483648≤z∧z≤2147483647
 | .u32,z=>0≤z∧z≤4294967295
 | .i16,z=>-32768≤z∧z≤32767
 | .u16,z=>0≤z∧z≤65535
 | .i8,z=>-128≤z∧z≤127
 | .u8,z=>0≤z∧z≤255
theorem fD {k:IntKind} {z:Int} (h:Ed k z):k.wrap z=z:=by
 cases k<;>simp only [Ed] at h<;>simp [IntKind.wrap,IntKind.bits,IntKind.signed]<;>omega
theorem ro {z:Int} (h:0≤z):z=(z.toNat:Int):=by omega
theorem cI {k:IntKind} {a b:Int} (h:a=b):J (.c (.int k a)) (.c (.int k b)):=h ▸ cZ
theorem cB {a b:Bool} (h:a=b):J (.c (.bool a)) (.c (.bool b)):=h ▸ cZ
theorem J.str {a b:ByteArray} (h:a=b):J (.c (.string a)) (.c (.string b)):=h ▸ cZ
theorem J.err {a b:Nat} (h:a=b):J (.err a) (.err b):=h ▸ cZ
theorem J.bs {a b:V} (h:a=b):J (dL a) (dL b):=h ▸ cZ
theorem cN:J (.c (.slice none 0 0)) (dL []):=J.nilS _ _
theorem cT {a b c d:CV} (h1:J a c) (h2:J b d):J (.tup 2 (fl [a,b])) (.tup 2 (fl [c,d])) :=
 J.tup rfl fun i hi=>match i,hi with|0,_=>h1|1,_=>h2
def SE (G:Gh) (s:AS) (x:Operand) (c:CV):Prop:=∀ St a w,ab G St s a w→ai G.al St w c (a.eval x)
theorem se {x:Operand} {c0 c:CV} (I:s.eval x=c0) (h:J c0 c):SE G s x c:=fun St a w hr=>h _ _ _ _ (c7 hr I)
theorem vy {x:Operand} {i off n m N:Nat} {g:Option Nat} {F:Nat→CV} (I:s.eval x=.os i g off n m) (hH:s.H[i]?=some (g,.frz N F)) (hN:off+n * m≤N) (f:Nat→Nat→CV) (hf:∀ a b,a<n→b<m→J (F (off+(a * m+b))) (f a b)):SE G s x (.rs m n f):=fun St a w hr=>by
 have he:=c7 hr I
 cases g with
 | none =>
  have ⟨h1,h2⟩:=he
  subst h1
  exact ⟨none,0,h2,FQ _,by decide,fun _=>rfl,fun _ h=>by cases h⟩
 | some g =>
  have ⟨cap,h1,h2,h3,_⟩:=he
  have ⟨fp,hp⟩:=hr.hp
  obtain ⟨_,hg,cur,t,z,hh,hle,hc⟩:=hp.rep i (some g) _ hH
  refine ⟨_,cap,h1,h2,h3,(fun h=>by cases h),fun ad ha _=>?_⟩
  cases ha
  refine ⟨rfl,hg,fun p q hp' hq=>?_⟩
  have hb:p * m+q<n * m:=by
   have:p * m+m≤n * m:=by rw [← H3];exact Gr _ hp'
   omega
  have hlt:off+(p * m+q)<cur.size:=by omega
  refine ⟨cur.getD (off+(p * m+q)) undef,?_,hf p q hp' hq _ _ _ _ (hc _ O)⟩
  show w.cell? ⟨g,off+(p * m+q),none⟩=_
  rw [cell_of_row w g _ cur t z hh];simp [hlt]
theorem i4 {x:Operand} {i off n N:Nat} {g:Option Nat} {F:Nat→CV} (l:V) (I:s.eval x=.os i g off n 1) (hH:s.H[i]?=some (g,.frz N F)) (hn:n=l.length) (hN:off+n≤N) (hf:∀ a,a<n→J (F (off+a)) (bX l a)):SE G s x (dL l):=by
 subst hn
 refine vy I hH O _ fun a b ha hb=>?_
 rw [show off+(a * 1+b)=off+a by omega]
 exact hf a ha
inductive pe (G:Gh) (s:AS):List Operand→List CV→Prop where
 | nil:pe G s [] []
 | cons {x:Operand} {c:CV} {l:List Operand} {m:List CV} (h:SE G s x c) (t:pe G s l m):pe G s (x::l) (c::m)
theorem yE {l:List Operand} {m:List CV} (h:pe G s l m):l.length=m.length:=by
 induction h with
 | nil=>rfl
 | cons _ _ ih=>simp [ih]
theorem yF {l:List Operand} {m:List CV} (h:pe G s l m) {St:Nat→Prop} {a:Act} {w:World} (hr:ab G St s a w):∀ i (hi:i<l.length),ai G.al St w (fl m i) (a.eval l[i]):=by
 induction h with
 | nil=>intro i hi;simp at hi
 | cons h1 _ ih =>
  intro i hi
  cases i with
  | zero=>exact h1 St a w hr
  | succ i=>exact ih i (by simpa using hi)
def c4 (gs:List Nat) (P:Program) (f:FuncId) (args:List CV) (m:CV):Prop:=AC gs P f [] args fun r H=>r=m∧H=[]
theorem s7 {xs:Array Operand} {args:List CV} (he:pe G s xs.toList args) {St:Nat→Prop} {a:Act} {w:World} (h:ab G St s a w):(xs.map a.eval).size=args.length∧∀ i,ai G.al St w (fl args i) ((xs.map a.eval).getD i undef):=by
 have hl:=yE he
 simp at hl
 refine ⟨by simp [hl],fun i=>?_⟩
 by_cases hi:i<xs.size
 ·have:=yF he h i (by simpa using hi)
  simpa [hi] using this
 ·rw [jn args i O]
  trivial
theorem qq {f:FuncId} {xs:Array Operand} {ats:Array TypeId} {args:List CV} {Q:CV→List (Option Nat×av)→Prop} (ho:o.op=.call ⟨.value (.func f),xs,ats⟩) (hc:aU P f=true) (hA:AC G.gs P f [] args Q) (he:pe G s xs.toList args) (hd:aJ G o=true)
  (hK:∀ r H',Q r H'→K (s.with o.dst r (s.H++H'))):eG P G o s K:=fun St a w hr Q'=>by
 unfold Oper.wp
 rw [nL ho hc]
 have ⟨h1,h2⟩:=s7 he hr
 refine (hA G.al w St _ _ (xw hr) h1 h2).mono ?_
 rintro e w' ⟨v,r,H',St',rfl,hq,hv,hu,h3,h4,h5,h6⟩
 refine ⟨hu.below,St',h3,_,hK r H' hq,?_⟩
 have:=(hr.after hu h3 h4 h5 h6).put (dst:=o.dst) (bA hd) hv
 cases ho:o.dst with
 | none=>rw [ho] at this;exact this
 | some d=>rw [ho] at this;exact this
theorem xr {f:FuncId} {xs:Array Operand} {ats:Array TypeId} {args:List CV} {m:CV} (ho:o.op=.call ⟨.value (.func f),xs,ats⟩) (hc:aU P f=true) (hA:c4 G.gs P f args m) (he:pe G s xs.toList args) (hd:aJ G o=true)
  (hK:K (s.with o.dst m (s.H++[]))):eG P G o s K:=qq ho hc hA he hd (by rintro _ _ ⟨rfl,rfl⟩;exact hK)
def tk (P:Program) (G:Gh) (s:AS) (rv:ResultVar) (c:CV):Prop:=∀ St a w,ab G St s a w→∃ v,(match rv with|.tmp t=>pure (a.tmps.getD t undef)|.cell d t=>do loadVar t (← asAddr (a.tmps.getD d undef)):Sem Value).run P w=.ok v w∧ai G.al St w c v
theorem cR {t:Nat} {c:CV} (h:look s.env s.b t=c):tk P G s (.tmp t) c:=fun St a w hr=>⟨_,rfl,h ▸ hr.env t⟩
theorem uY {d:Nat} {t:TypeId} {i off n m:Nat} {g:Option Nat} {f:Nat→CV} {ds:TypeDesc} (h:look s.env s.b d=.op i g off) (hH:Holds s i g n f) (h1:P.underlying t=some ds) (ha:eD P t=true) (h5:(P.info? t).map (·.size)=some m) (hn:off+m≤n):tk P G s (.cell d t) (.agg m fun j=>f (off+j)):=fun St a w hr=>by
 have ⟨info,h5i,h6⟩:=FM.1 h5
 have he:=hr.env d
 rw [h] at he
 obtain ⟨b,rfl,he⟩:=he
 have ⟨hg,cur,ty,z,hh,hle,hcell⟩:=fw hr hH
 subst h6
 have hrun:=fH h1 ha h5i (w:=w) (b:=b) (q:=off) (g:=fun j=>cur.getD (off+j) undef) (fun j hj=>by
  have hlt:off+j<cur.size:=by omega
  rw [cell_of_row w b (off+j) cur ty z hh];simp [hlt])
 refine ⟨.agg ((List.range info.size).map fun j=>cur.getD (off+j) undef).toArray,?_,_,rfl,by simp,fun j hj=>?_⟩
 ·simp only [he,asAddr,Sem.run_bind,Sem.run_pure,Result.andThen_ok]
  exact hrun
 ·have:=hcell (off+j) O
  simp [hj] at this ⊢
  exact this
theorem tQ {α β:Type} (f:α→Sem β) {a1:α} {b1:β} {w:World} (h1:(f a1).run P w=.ok b1 w):((#[a1]:Array α).mapM f).run P w=.ok #[b1] w:=by
 simp [h1]
theorem tP {α β:Type} (f:α→Sem β) {a1 a2:α} {b1 b2:β} {w:World} (h1:(f a1).run P w=.ok b1 w) (h2:(f a2).run P w=.ok b2 w):((#[a1,a2]:Array α).mapM f).run P w=.ok #[b1,b2] w:=by
 simp [h1,h2]
theorem tO {α β:Type} (f:α→Sem β) {a1 a2 a3:α} {b1 b2 b3:β} {w:World} (h1:(f a1).run P w=.ok b1 w) (h2:(f a2).run P w=.ok b2 w) (h3:(f a3).run P w=.ok b3 w):((#[a1,a2,a3]:Array α).mapM f).run P w=.ok #[b1,b2,b3] w:=by
 simp [h1,h2,h3]
theorem tN {α β:Type} (f:α→Sem β) {a1 a2 a3 a4:α} {b1 b2 b3 b4:β} {w:World} (h1:(f a1).run P w=.ok b1 w) (h2:(f a2).run P w=.ok b2 w) (h3:(f a3).run P w=.ok b3 w) (h4:(f a4).run P w=.ok b4 w):((#[a1,a2,a3,a4]:Array α).mapM f).run P w=.ok #[b1,b2,b3,b4] w:=by
 simp [h1,h2,h3,h4]
theorem lf {fn:Func} {tmps:Array Value} {vs:Array Value} {w:World} (h:(fn.results.mapM fun|.tmp t=>pure (tmps.getD t undef)|.cell a t=>do loadVar t (← asAddr (tmps.getD a undef)):Sem (Array Value)).run P w=.ok vs w):(results fn tmps).run P w=.ok (if h:vs.size=1 then vs[0] else .tuple vs) w:=by
 unfold results
 rw [Sem.run_bind]
 have h':=h
 refine (F7 (fun r=>Result.andThen r _) h').trans ?_
 rfl
theorem fo {fn:Func} {r1:ResultVar} {v:CV} (h:fn.results=#[r1]) (h1:tk P G s r1 v):eI P G fn s v:=fun St a w hr=>by
 have ⟨x1,e1,q1⟩:=h1 St a w hr
 exact ⟨x1,lf (vs:=#[x1]) (by rw [h];exact tQ _ e1),q1⟩
theorem be {fn:Func} {r1 r2:ResultVar} {v1 v2:CV} (h:fn.results=#[r1,r2]) (h1:tk P G s r1 v1) (h2:tk P G s r2 v2):eI P G fn s (.tup 2 (fl [v1,v2])):=fun St a w hr=>by
 have ⟨x1,e1,q1⟩:=h1 St a w hr
 have ⟨x2,e2,q2⟩:=h2 St a w hr
 exact ⟨.tuple #[x1,x2],lf (vs:=#[x1,x2]) (by rw [h];exact tP _ e1 e2),_,rfl,rfl,fun i hi=>match i,hi with|0,_=>q1|1,_=>q2⟩
theorem Dh {fn:Func} {r1 r2 r3:ResultVar} {v1 v2 v3:CV} (h:fn.results=#[r1,r2,r3]) (h1:tk P G s r1 v1) (h2:tk P G s r2 v2) (h3:tk P G s r3 v3):eI P G fn s (.tup 3 (fl [v1,v2,v3])):=fun St a w hr=>by
 have ⟨x1,e1,q1⟩:=h1 St a w hr
 have ⟨x2,e2,q2⟩:=h2 St a w hr
 have ⟨x3,e3,q3⟩:=h3 St a w hr
 exact ⟨.tuple #[x1,x2,x3],lf (vs:=#[x1,x2,x3]) (by rw [h];exact tO _ e1 e2 e3),_,rfl,rfl,fun i hi=>match i,hi with|0,_=>q1|1,_=>q2|2,_=>q3⟩
theorem Dg {fn:Func} {r1 r2 r3 r4:ResultVar} {v1 v2 v3 v4:CV} (h:fn.results=#[r1,r2,r3,r4]) (h1:tk P G s r1 v1) (h2:tk P G s r2 v2) (h3:tk P G s r3 v3) (h4:tk P G s r4 v4):eI P G fn s (.tup 4 (fl [v1,v2,v3,v4])):=fun St a w hr=>by
 have ⟨x1,e1,q1⟩:=h1 St a w hr
 have ⟨x2,e2,q2⟩:=h2 St a w hr
 have ⟨x3,e3,q3⟩:=h3 St a w hr
 have ⟨x4,e4,q4⟩:=h4 St a w hr
 exact ⟨.tuple #[x1,x2,x3,x4],lf (vs:=#[x1,x2,x3,x4]) (by rw [h];exact tN _ e1 e2 e3 e4),_,rfl,rfl,fun i hi=>match i,hi with|0,_=>q1|1,_=>q2|2,_=>q3|3,_=>q4⟩
theorem bo {fn:Func} (h:fn.results=#[]):eI P G fn s (.c (.tuple #[])):=fun St a w hr=>⟨.tuple #[],by simp [results,h],rfl⟩
theorem zP {fn:Func} {e:Exit} {v m:CV} (he:e=.ret∨e=.normal) (hres:eI P G fn s v) (hv:J v m):fB P G fn (fun r H=>r=m∧H=[]) e s:=xy he m (hres.ent hv) ⟨rfl,rfl⟩
variable {t u:TypeId} {p q:Operand} {k:IntKind}
theorem oE {e:TypeId} {b:Operand} {z2:Int} {k2:IntKind} {v:Nat} {bl:V} (ho:o.op=.slice t p none (some b) none) (I:s.eval p=dL bl) (h1:P.underlying t=some (.slice e)) (h5:(P.info? e).map (·.size)=some 1)
  (hb:s.eval b=.c (.int k2 z2)) (hz2:z2=(v:Int)) (hvn:v≤bl.length):aN P G o s (dL (bl.take v)) :=
 (nh ho I h1 h5 (dm _ _) (bO hb hz2) (F4 _) hvn).ent (D5 bl v hvn)
theorem yX (ho:o.op=.binOp .eql 37 p (.const .nilIface) u) (I:s.eval p=.c .nilIface):aN prog G o s (.c (.bool (decide ((0:Nat)=0)))):=fun St a w h=>by
 have hs:a.eval p=ev G.al 0:=(iR h I).trans (sQ _).symm
 refine ⟨.bool (decide ((0:Nat)=0)),fun W _=>?_,rfl⟩
 simp only [execOp,ho,hs]
 refine iz ?_
 show (do eqGuard .eql _ _ _ (ev G.al 0) .nilIface;binOp .eql _ (ev G.al 0) .nilIface:Sem Value).run _ W=_
 rw [di]
 exact gx G.al 0 W
theorem yO (ho:o.op=.binOp .neq 37 p (.const .nilIface) u) (I:s.eval p=.c .nilIface):aN prog G o s (.c (.bool (decide ((0:Nat)≠0)))):=fun St a w h=>by
 have hs:a.eval p=ev G.al 0:=(iR h I).trans (sQ _).symm
 refine ⟨.bool (decide ((0:Nat)≠0)),fun W _=>?_,rfl⟩
 simp only [execOp,ho,hs]
 refine iz ?_
 show (do eqGuard .neq _ _ _ (ev G.al 0) .nilIface;binOp .neq _ (ev G.al 0) .nilIface:Sem Value).run _ W=_
 rw [di]
 have:=gv G.al 0 W
 rw [← decide_not] at this
 exact this
def cF {α:Type} (k:Nat) (e:α→Nat→CV) (d:α) (l:List α) (j:Nat):CV:=e (l.getD (j / k) d) (j % k)
theorem bb {α:Type} {k:Nat} {e:α→Nat→CV} {d:α} {l:List α} {i j:Nat} (hj:j<k):cF k e d l (i * k+j)=e (l.getD i d) j:=by
 unfold cF
 rw [Hn i k,Nat.mul_add_div O,Nat.div_eq_of_lt hj,GV,Nat.mul_add_mod,Nat.mod_eq_of_lt hj]
theorem rQ {l l2:V} {h:Nat→CV} (hh:∀ j,j<l2.length→J (h j) (bX l2 j)):∀ j,j<(l.length+l2.length) * 1→J (kC (l.length * 1) (bX l) h j) (bX (l++l2) j):=fun j hj=>by
 unfold kC
 by_cases h1:j<l.length * 1
 ·rw [FO h1]
  refine J.of_eq ?_
  simp only [bX,FJ,FR (show j<l.length by omega)]
 ·rw [FN h1]
  refine J.trans (hh _ O) (J.of_eq ?_)
  simp only [bX,FJ,FZ (show l.length≤j by omega),Hv]
theorem rt {e:TypeId} {z:Value} {i N:Nat} {g:Option Nat} {f h:Nat→CV} {l l2:V} {m:Nat} (ho:o.op=.call ⟨.builtin .append,#[p,q],#[t,u]⟩) (I:s.eval p=.os i g 0 l.length 1) (hH:s.H[i]?=some (g,.blk N f)) (hN:l.length≤N) (hf:∀ j,j<l.length→J (f j) (bX l j))
  (hsrc:mz P G s q 1 m h) (hm:m=l2.length) (hh:∀ j,j<l2.length→J (h j) (bX l2 j)) (h1:P.underlying t=some (.slice e)) (hu:bK P u=true) (h5:(P.info? e).map (·.size)=some 1) (hz:(P.info? e).map (·.zero)=some (some z)) (hby:(P.info? e).map (·.bytes)=some 1) (hzk:z.cells.size=1)
  (h63:l.length+l2.length≤140737488355328) (hleaf:∀ j,j<m * 1→dx (h j)=true) (hd:aJ G o=true)
  (hK:∀ g',K (s.with o.dst (.os i g' 0 (l++l2).length 1) (s.H.set i (g',.blk (l++l2).length (bX (l++l2)))))):kE P G o s K:=by
 subst hm
 refine nq ho I hH O hsrc h1 hu h5 hz hby O O hzk (bX (l++l2)) (fun j hj=>?_) hleaf hd (fun g'=>?_)
 ·refine J.trans ?_ (rQ hh j hj)
  unfold kC
  split
  exact hf j O
  exact cZ
 ·have:=hK g'
  rw [FX] at this
  rw [Hv]
  exact this
variable {env:List (Nat×CV)} {b0:Nat→CV} {H:List (Option Nat×av)}
theorem ba {d:Nat} {v:CV} {H':List (Option Nat×av)} (hd:o.dst=some d):(⟨env,b0,H⟩:AS).with o.dst v H'=⟨(d,v)::env,b0,H'⟩:=by simp only [AS.with,AS.put,hd]
theorem mZ {v:CV} {H':List (Option Nat×av)} (hd:o.dst=none):(⟨env,b0,H⟩:AS).with o.dst v H'=⟨env,b0,H'⟩:=by simp only [AS.with,AS.put,hd]
theorem ez {d:Nat} (hd:o.dst=some d) (hN:Nat.blt d G.N=true):aJ G o=true:=by simp only [aJ,hd];exact hN
theorem A0 (hd:o.dst=none):aJ G o=true:=by simp only [aJ,hd]
theorem zV {z:Value} {n d:Nat} (ho:o.op=.alloc t) (hz:(P.info? t).map (·.zero)=some (some z)) (hn:z.cells.size=n) (hd:o.dst=some d) (hN:Nat.blt d G.N=true)
  (hK:∀ g,K ⟨(d,.op H.length g 0)::env,b0,H++[(g,.blk n fun j=>.c (z.cells.getD j undef))]⟩):eG P G o ⟨env,b0,H⟩ K :=
 xt ho hz hn (ez hd hN) fun g=>by rw [ba hd];exact hK g
theorem DV {n d:Nat} {c:CV} {l:List CV} (ho:o.op=.box t p) (I:(⟨env,b0,H⟩:AS).eval p=c) (hl:bC c=some l) (hn:l.length=n) (hd:o.dst=some d) (hN:Nat.blt d G.N=true)
  (hK:∀ g,K ⟨(d,.op H.length g 0)::env,b0,H++[(g,.blk n (fl l))]⟩):eG P G o ⟨env,b0,H⟩ K :=
 Ct ho I hl hn (ez hd hN) fun g=>by rw [ba hd];exact hK g
theorem o0 {e:TypeId} {z:Value} {len m:Nat} {parts:Array (Nat×Operand)} {l:List CV} {n d:Nat} (ho:o.op=.buildSlice t len parts) (h1:P.underlying t=some (.slice e)) (h5:(P.info? e).map (·.size)=some m) (hz:(P.info? e).map (·.zero)=some (some z))
  (hm:Nat.ble (len * m) 16777216=true) (hlen:Nat.ble len 16777216=true) (hf:kP (fun i=>some (i * m,m)) ((List.range (len * m)).map fun i=>.c (z.cells[i % z.cells.size]!)) (parts.toList.map fun p=>(p.1,(⟨env,b0,H⟩:AS).eval p.2))=some l) (hn:l.length=n) (hle:n=len * m) (hd:o.dst=some d) (hN:Nat.blt d G.N=true)
  (hK:∀ g,K ⟨(d,.os H.length g 0 len m)::env,b0,H++[(g,.blk n (fl l))]⟩):eG P G o ⟨env,b0,H⟩ K :=
 mN ho h1 h5 hz hm hlen hf hn hle (ez hd hN) fun g=>by rw [ba hd];exact hK g
theorem xD {e:TypeId} {l:ByteArray} {d:Nat} (ho:o.op=.convert t u p) (I:(⟨env,b0,H⟩:AS).eval p=.c (.string l)) (h1:P.underlying t=some .string) (h2:P.underlying u=some (.slice e)) (h3:P.underlying e=some (.int .u8)) (hl:l.size≤9223372036854775807) (hd:o.dst=some d) (hN:Nat.blt d G.N=true)
  (hK:K ⟨(d,dL l.data.toList)::env,b0,H⟩):eG P G o ⟨env,b0,H⟩ K :=
 uI ho I h1 h2 h3 hl (ez hd hN) (by rw [ba hd];exact hK)
theorem zT {f:FuncId} {xs:Array Operand} {ats:Array TypeId} {args:List CV} {m:CV} {d:Nat} (ho:o.op=.call ⟨.value (.func f),xs,ats⟩) (hc:aU P f=true) (hA:c4 G.gs P f args m) (he:pe G ⟨env,b0,H⟩ xs.toList args) (hd:o.dst=some d) (hN:Nat.blt d G.N=true)
  (hK:K ⟨(d,m)::env,b0,H⟩):eG P G o ⟨env,b0,H⟩ K:=xr ho hc hA he (ez hd hN) (by rw [ba hd,G3];exact hK)
theorem zS {f:FuncId} {xs:Array Operand} {ats:Array TypeId} {args:List CV} {Q:CV→List (Option Nat×av)→Prop} {d:Nat} (ho:o.op=.call ⟨.value (.func f),xs,ats⟩) (hc:aU P f=true) (hA:AC G.gs P f [] args Q) (he:pe G ⟨env,b0,H⟩ xs.toList args) (hd:o.dst=some d) (hN:Nat.blt d G.N=true)
  (hK:∀ r H',Q r H'→K ⟨(d,r)::env,b0,H++H'⟩):eG P G o ⟨env,b0,H⟩ K:=qq ho hc hA he (ez hd hN) (fun r H' hq=>by rw [ba hd];exact hK r H' hq)
theorem oZ {f:FuncId} {v:Operand} {n d:Nat} {fv:Nat→CV} {xs:Array Operand} {ats:Array TypeId} {args:List CV} {Q:CV→List (Option Nat×av)→Prop} (ho:o.op=.call ⟨.value v,xs,ats⟩) (hv:(⟨env,b0,H⟩:AS).eval v=.fn f n fv) (hc:aU P f=true) (hA:AC G.gs P f [] args Q) (he:iX (xs.toList.map (⟨env,b0,H⟩:AS).eval++(List.range n).map fv) args) (hd:o.dst=some d) (hN:Nat.blt d G.N=true)
  (hK:∀ r H',Q r H'→K ⟨(d,r)::env,b0,H++H'⟩):eG P G o ⟨env,b0,H⟩ K:=xq ho hv hc he hA (ez hd hN) (fun r H' hq=>by rw [ba hd];exact hK r H' hq)
theorem sB {i off n m:Nat} {g:Option Nat} {f:Nat→CV} {c:CV} {l:List CV} (ho:o.op=.store t p q) (I:(⟨env,b0,H⟩:AS).eval p=.op i g off) (hH:H[i]?=some (g,.blk n f)) (hy:(⟨env,b0,H⟩:AS).eval q=c) (hl:bC c=some l) (h5:(P.info? t).map (·.size)=some m) (hm:l.length=m) (hleaf:l.all dx=true) (hn:off+m≤n)
  (F:Nat→CV) (hF:∀ j,j<n→J (jG f off l j) (F j)) (hd:o.dst=none) (hK:K ⟨env,b0,H.set i (g,.blk n F)⟩):kE P G o ⟨env,b0,H⟩ K :=
 wB ho I hH hy hl h5 hm hleaf hn F hF (A0 hd) (by rw [mZ hd];exact hK)
theorem wF {e:TypeId} {z:Value} {i n m k N by_ n' N' d:Nat} {g:Option Nat} {f h:Nat→CV} (ho:o.op=.call ⟨.builtin .append,#[p,q],#[t,u]⟩) (I:(⟨env,b0,H⟩:AS).eval p=.os i g 0 n k) (hH:H[i]?=some (g,.blk N f)) (hN:n * k≤N)
  (hsrc:mz P G ⟨env,b0,H⟩ q k m h) (h1:P.underlying t=some (.slice e)) (hu:bK P u=true) (h5:(P.info? e).map (·.size)=some k) (hz:(P.info? e).map (·.zero)=some (some z)) (hby:(P.info? e).map (·.bytes)=some by_)
  (h63:n+m≤9223372036854775807) (h48:(n+m) * by_≤140737488355328) (hzk:z.cells.size=k)
  (F:Nat→CV) (hF:∀ j,j<(n+m) * k→J (kC (n * k) f h j) (F j)) (hleaf:∀ j,j<m * k→dx (h j)=true) (hd:o.dst=some d) (hdN:Nat.blt d G.N=true) (hn':n+m=n') (hN':(n+m) * k=N')
  (hK:∀ g',K ⟨(d,.os i g' 0 n' k)::env,b0,H.set i (g',.blk N' F)⟩):kE P G o ⟨env,b0,H⟩ K :=
 nq ho I hH hN hsrc h1 hu h5 hz hby h63 h48 hzk F hF hleaf (ez hd hdN) fun g'=>by subst hn';subst hN';rw [ba hd];exact hK g'
theorem bV {e:TypeId} {z:Value} {i N d:Nat} {g:Option Nat} {f h:Nat→CV} {l l2:V} {m:Nat} (ho:o.op=.call ⟨.builtin .append,#[p,q],#[t,u]⟩) (I:(⟨env,b0,H⟩:AS).eval p=.os i g 0 l.length 1) (hH:H[i]?=some (g,.blk N f)) (hN:l.length≤N) (hf:∀ j,j<l.length→J (f j) (bX l j))
  (hsrc:mz P G ⟨env,b0,H⟩ q 1 m h) (hm:m=l2.length) (hh:∀ j,j<l2.length→J (h j) (bX l2 j)) (h1:P.underlying t=some (.slice e)) (hu:bK P u=true) (h5:(P.info? e).map (·.size)=some 1) (hz:(P.info? e).map (·.zero)=some (some z)) (hby:(P.info? e).map (·.bytes)=some 1) (hzk:z.cells.size=1)
  (h63:l.length+l2.length≤140737488355328) (hleaf:∀ j,j<m * 1→dx (h j)=true) (hd:o.dst=some d) (hdN:Nat.blt d G.N=true)
  (hK:∀ g',K ⟨(d,.os i g' 0 (l++l2).length 1)::env,b0,H.set i (g',.blk (l++l2).length (bX (l++l2)))⟩):kE P G o ⟨env,b0,H⟩ K :=
 rt ho I hH hN hf hsrc hm hh h1 hu h5 hz hby hzk h63 hleaf (ez hd hdN) fun g'=>by rw [ba hd];exact hK g'
theorem aG {c:Code} {α:Type} (D:List Nat) (M:α→List (Nat×CV)) (Hp:α→List (Option Nat×av)) (φ:α→Prop) (μ:α→Nat) (p0:α) (h0:φ p0) (hM:∀ p,((M p).all fun x=>D.any (Nat.beq x.1))=true) (he:cA env b0 (M p0)) (hH:ar H (Hp p0))
  (hr:∀ p,φ p→ap P G c ⟨M p,kN D env b0,Hp p⟩ (iY (fun s'=>∃ p',φ p'∧μ p'<μ p∧n9 D (kN D env b0) s'.b∧(s'.env.all fun x=>D.any (Nat.beq x.1))=true∧cA s'.env s'.b (M p')∧(Hp p').length≤s'.H.length∧ar (s'.H.take (Hp p').length) (Hp p')) R)):ap P G (.loop c) ⟨env,b0,H⟩ R :=
 rJ (s:=⟨env,b0,H⟩) D M Hp φ μ p0 h0 hM he hH hr
end
section
variable {P:Program} {G:Gh} {ops:Array Oper} {o:Oper} {s:AS} {K:AS→Prop} {t u:TypeId} {p q:Operand} {k:IntKind}
variable {env:List (Nat×CV)} {b0:Nat→CV} {H:List (Option Nat×av)}
theorem ab.afterH {St St':Nat→Prop} {a:Act} {w w':World} (h:ab G St s a w) {fp:Nat→Nat→Prop} (hp:qK G.al St w G.w0.heap.size G.F0 s.H fp) {i:Nat} (hi:i<s.H.length) {x:Option Nat×av} (hu:d6 (fp i) w w') (h1:∀ b,St b→St' b) (h2:∀ b,St' b→St b∨w.heap.size≤b∨fp i b) (h3:∀ b,St' b→b<w'.heap.size) (hp':a6 G.al St' w' w.heap.size (fp i) [x]) :
  ab G St' ⟨s.env,s.b,s.H.set i x⟩ a w':=by
 have hst:∀ b,St b→w'.heap[b]?=w.heap[b]?:=fun b hb=>hu.block b (h.s3 b hb) fun hf=>(hp.own i b hf).2.1 hb
 have he:k9 St w w':=⟨fun b cur t z hb hc=>(hst b hb).trans hc,hu.sh⟩
 have ⟨fp',hp'⟩:=hp'
 refine ⟨h.df.keep h1 hst,h.sz,fun d=>ai.evo he h1 _ _ (h.env d),⟨hu.os.trans h.un.os,hu.tape.trans h.un.tape,hu.output.trans h.un.output,Gm h.un.size hu.size,fun k hk hF=>?_,fun b cur ty z hb=>?_⟩,fun b hs=>h1 b (h.s1 b hs),fun b hs=>?_,h3,?_,?_,fun g hg=>h1 g (h.sg.1 g hg),fun y hy=>h1 _ (h.sg.2 y hy)⟩
 ·refine (hu.block k (Ge hk h.un.size) fun hf=>?_).trans (h.un.block k hk hF)
  rcases (hp.own i k hf).2.2 with h4|h4
  omega
  exact hF h4
 ·have ⟨cur',z',h4,h5⟩:=h.un.sh b cur ty z hb
  have ⟨cur2,z2,h6,h7⟩:=hu.sh b cur' ty z' h4
  exact ⟨cur2,z2,h6,h7.trans h5⟩
 ·rcases h2 b hs with hs|hs|hs
  exact h.s2 b hs
  exact .inr (.inl (Gm h.un.size hs))
  exact .inr (hp.own i b hs).2.2
 ·have old:∀ j b,j≠i→fp j b→w'.heap[b]?=w.heap[b]?:=fun j b hj hb=>hu.block b (hp.own j b hb).1 fun hf=>hj (hp.dis j i b hb hf)
  refine ⟨fun j b=>if j=i then fp' 0 b else fp j b,fun j q r hj=>?_,fun j l b hj hl=>?_,fun j b hj=>?_,fun j hj b hb=>?_⟩
  ·by_cases e:j=i
   ·subst e
    simp [hi] at hj
    have e2:(fun b=>if j=j then fp' 0 b else fp j b)=fp' 0:=funext fun b=>by simp
    show r.rep G.al St' w' (fun b=>if j=j then fp' 0 b else fp j b) q
    rw [e2]
    exact hp'.rep 0 q r (by simp [hj])
   ·rw [FU (Ne.symm e)] at hj
    have e2:(fun b=>if j=i then fp' 0 b else fp j b)=fp j:=funext fun b=>by simp [e]
    show r.rep G.al St' w' (fun b=>if j=i then fp' 0 b else fp j b) q
    rw [e2]
    exact av.rep_evo he h1 (fun b hF=>old j b e hF) (hp.rep j q r hj)
  ·have apart:∀ l b,l≠i→fp l b→fp' 0 b→False:=fun l b hl h4 h5=>by
    rcases (hp'.own 0 b h5).2.2 with h6|h6
    ·have:=(hp.own l b h4).1;omega
    exact hl (hp.dis l i b h4 h6)
   by_cases e1:j=i<;>by_cases e2:l=i
   omega
   ·simp only [e1,e2,if_true,if_false] at hj hl;exact (apart l b e2 hl hj).elim
   ·simp only [e1,e2,if_true,if_false] at hj hl;exact (apart j b e1 hj hl).elim
   ·simp only [e1,e2,if_false] at hj hl;exact hp.dis j l b hj hl
  ·by_cases e:j=i
   ·simp only [e,if_true] at hj
    obtain ⟨h4,h5,h6⟩:=hp'.own 0 b hj
    refine ⟨h4,h5,?_⟩
    rcases h6 with h6|h6
    exact .inl (Gm h.un.size h6)
    exact (hp.own i b h6).2.2
   ·simp only [e,if_false] at hj
    have ⟨h4,h5,h6⟩:=hp.own j b hj
    refine ⟨Ge h4 hu.size,fun hs=>?_,h6⟩
    rcases h2 b hs with hs|hs|hs
    exact h5 hs
    omega
    exact e (hp.dis j i b hj hs)
  ·have hj':s.H.length≤j:=by simpa using hj
   have e:j≠i:=by omega
   simp only [e,if_false] at hb
   exact hp.out j hj' b hb
 exact cd.keep h.sn (fun q hq=>hst q (h.sg.1 q hq)) (fun y hy=>hst _ (h.sg.2 y hy))
theorem sC {f:FuncId} {xs:Array Operand} {ats:Array TypeId} {args:List CV} {Q:CV→List (Option Nat×av)→Prop} {i d:Nat} {x0:Option Nat×av} (ho:o.op=.call ⟨.value (.func f),xs,ats⟩) (hc:aU P f=true) (hi:H[i]?=some x0) (hA:AC G.gs P f [x0] args Q) (he:pe G ⟨env,b0,H⟩ xs.toList args) (hd:o.dst=some d) (hN:Nat.blt d G.N=true)
  (hK:∀ r H',Q r H'→∃ x r',H'=[x]∧J r r'∧K ⟨(d,r')::env,b0,H.set i x⟩):kE P G o ⟨env,b0,H⟩ K:=fun St a w hr Q'=>by
 unfold Oper.wp
 rw [nL ho hc]
 have ⟨h1,h2⟩:=s7 he hr
 have ⟨fp,hp⟩:=hr.hp
 have hlt:i<H.length:=(FL.1 hi).1
 have ⟨g0,r0⟩:=x0
 have hent:tj G.gs G.al St (fp i) [(g0,r0)] w:=by
  refine ⟨hr.s3,hr.sn,hr.sg,⟨fun j b=>j=0∧fp i b,fun j g r hj=>?_,fun j l b hj hl=>by omega,fun j b hj=>⟨(hp.own i b hj.2).1,(hp.own i b hj.2).2.1,.inr hj.2⟩,fun j hj b hb=>by simp at hj;omega⟩,fun b hb=>(hp.own i b hb).2.1⟩
  match j,hj with
  | 0,hj =>
   simp at hj
   obtain ⟨rfl,rfl⟩:=hj
   have e:(fun b=>(0:Nat)=0∧fp i b)=fp i:=funext fun b=>by simp
   show r0.rep G.al St w (fun b=>(0:Nat)=0∧fp i b) g0
   rw [e]
   exact hp.rep i g0 r0 hi
  | j+1,hj=>simp at hj
 refine (hA G.al w St _ _ hent h1 h2).mono ?_
 rintro e w' ⟨v,r,H',St',rfl,hq,hv,hu,h3,h4,h5,h6⟩
 obtain ⟨x,r',rfl,hce,hk⟩:=hK r H' hq
 refine ⟨fun b hb=>hu.block b (hr.s3 b hb) fun hf=>(hp.own i b hf).2.1 hb,St',h3,_,hk,?_⟩
 have h7:=(hr.afterH hp hlt hu h3 h4 h5 h6).put (dst:=o.dst) (v:=r') (x:=v) (by intro d' hd';rw [hd] at hd';cases hd';exact FS hN) (hce _ _ _ _ hv)
 rw [hd] at h7 ⊢
 exact h7
theorem cO {i j:Nat} {g:Option Nat} {off n m k:Nat} (h:n=m):J (.os i g off n k) (.os j g off m k):=by
 subst h
 cases g<;>exact fun _ _ _ _ h=>h
theorem cP {i j off:Nat} {g:Option Nat}:J (.op i g off) (.op j g off):=fun _ _ _ _ h=>h
def mV (n k N:Nat) (F:Nat→CV):CV→List (Option Nat×av)→Prop:=fun r H'=>∃ g,r=.os 0 g 0 n k∧H'=[(g,.blk N F)]
theorem zh {f:FuncId} {xs:Array Operand} {ats:Array TypeId} {args:List CV} {n m N:Nat} {F:Nat→CV} {i d:Nat} {x0:Option Nat×av} (ho:o.op=.call ⟨.value (.func f),xs,ats⟩) (hc:aU P f=true) (hi:H[i]?=some x0) (hA:AC G.gs P f [x0] args (mV n m N F)) (he:pe G ⟨env,b0,H⟩ xs.toList args) (hd:o.dst=some d) (hN:Nat.blt d G.N=true)
  (hK:∀ g,K ⟨(d,.os i g 0 n m)::env,b0,H.set i (g,.blk N F)⟩):kE P G o ⟨env,b0,H⟩ K :=
 sC ho hc hi hA he hd hN fun r H' ⟨g,h1,h2⟩=>⟨_,_,h2,by rw [h1];exact cO (j:=i) rfl,hK g⟩
theorem xx {d:Nat} {v v':CV} (h:J v v'):aZ G ⟨(d,v)::env,b0,H⟩ ⟨(d,v')::env,b0,H⟩:=fun St a w hr=>by
 refine ⟨St,fun _ h=>h,hr.df,hr.sz,fun e=>?_,hr.un,hr.s1,hr.s2,hr.s3,hr.hp,hr.sn,hr.sg⟩
 have:=hr.env e
 by_cases hde:d=e
 ·subst hde
  rw [bw] at this ⊢
  exact h _ _ _ _ this
 ·rw [aQ _ _ _ hde] at this ⊢;exact this
theorem eG.ent {K':AS→Prop} (h:eG P G o s K') (hK:∀ s',K' s'→∃ s'',aZ G s' s''∧K s''):eG P G o s K:=fun St a w hr Q=>Oper.wp_mono (fun a' w' ⟨hb,St',hs,s',h1,h2⟩=>by
 have ⟨s'',h3,h4⟩:=hK s' h1
 have ⟨S2,h5,h6⟩:=h3 St' a' w' h2
 exact ⟨hb,S2,fun b hb=>h5 b (hs b hb),s'',h4,h6⟩) (h St a w hr Q)
theorem zU {f:FuncId} {xs:Array Operand} {ats:Array TypeId} {args:List CV} {n m N:Nat} {F:Nat→CV} {d:Nat} (ho:o.op=.call ⟨.value (.func f),xs,ats⟩) (hc:aU P f=true) (hA:AC G.gs P f [] args (mV n m N F)) (he:pe G ⟨env,b0,H⟩ xs.toList args) (hd:o.dst=some d) (hN:Nat.blt d G.N=true)
  (hK:∀ g,K ⟨(d,.os H.length g 0 n m)::env,b0,H++[(g,.blk N F)]⟩):eG P G o ⟨env,b0,H⟩ K :=
 eG.ent (K':=fun s'=>∃ g,s'=⟨(d,.os 0 g 0 n m)::env,b0,H++[(g,.blk N F)]⟩) (zS ho hc hA he hd hN fun r H' ⟨g,h1,h2⟩=>⟨g,by rw [h1,h2]⟩) fun s' ⟨g,hs⟩=>⟨_,by rw [hs];exact xx (cO (j:=H.length) rfl),hK g⟩
theorem mf {fn:Func} {e:Exit} {n m k N M:Nat} {g:Option Nat} {F F':Nat→CV} (i:Nat) (he:e=.ret∨e=.normal) (hres:eI P G fn s (.os i g 0 n k)) (hH:s.H[i]?=some (g,.blk N F)) (hn:n=m) (hN:M≤N) (hg:g=none→M=N) (hF:∀ j,j<M→J (F j) (F' j)):fB P G fn (mV m k M F') e s:=by
 have h:∃ r H',eI P G fn s r∧mV m k M F' r H'∧∀ St a w,ab G St s a w→a6 G.al St w G.w0.heap.size G.F0 H':=by
  refine ⟨.os 0 g 0 m k,[(g,.blk M F')],hres.ent (cO hn),⟨g,rfl,rfl⟩,fun St a w hr=>?_⟩
  have ⟨fp,hp⟩:=hr.hp
  have hr0:=hp.rep i g _ hH
  refine ⟨fun j b=>j=0∧fp i b,fun j q r hj=>?_,fun j l b hj hl=>by omega,fun j b hj=>hp.own i b hj.2,fun j hj b hb=>by simp at hj;omega⟩
  match j,hj with
  | 0,hj =>
   simp at hj
   obtain ⟨rfl,rfl⟩:=hj
   have e:(fun b=>(0:Nat)=0∧fp i b)=fp i:=funext fun b=>by simp
   show av.rep G.al St w (fun b=>(0:Nat)=0∧fp i b) g (.blk M F')
   rw [e]
   cases g with
   | none=>exact ⟨by rw [hg rfl];exact hr0.1,hr0.2⟩
   | some g =>
    have ⟨h1,cur,ty,h2,h3,h4⟩:=hr0
    exact ⟨h1,cur,ty,h2,by omega,fun l hl=>hF l hl _ _ _ _ (h4 l O)⟩
  | j+1,hj=>simp at hj
 rcases he with rfl|rfl<;>exact h
theorem lh (d k:Nat) (f:Nat→CV) (hl:look s.env s.b d=.c (.slice none 0 0)):aZ G s ⟨(d,.os s.H.length none 0 0 k)::s.env,s.b,s.H++[(none,.blk 0 f)]⟩:=fun St a w hr=>by
 refine ⟨St,fun _ h=>h,hr.df,hr.sz,fun e=>?_,hr.un,hr.s1,hr.s2,hr.s3,?_,hr.sn,hr.sg⟩
 ·by_cases hde:d=e
  ·subst hde
   rw [bw]
   have:=hr.env d
   rw [hl] at this
   exact ⟨rfl,this⟩
  ·rw [aQ _ _ _ hde];exact hr.env e
 ·have ⟨fp,hp⟩:=hr.hp
  refine ⟨fp,fun j g r hj=>?_,hp.dis,hp.own,fun j hj=>hp.out j (by simp at hj;omega)⟩
  rcases Gs j s.H.length with h1|h1
  ·rw [FR h1] at hj;exact hp.rep j g r hj
  ·rw [FZ h1] at hj
   have h2:=(FL.1 hj).1
   simp at h2
   have h3:j=s.H.length:=by omega
   subst h3
   simp at hj
   obtain ⟨rfl,rfl⟩:=hj
   exact ⟨rfl,fun b hb=>hp.out _ (FQ _) b hb⟩
theorem gX {x:Operand} {i k off:Nat} (I:s.eval x=.c (.slice none 0 0)):SE G s x (.os i none off 0 k):=fun St a w hr=>⟨rfl,iR hr I⟩
theorem jp (f:Nat→CV):aZ G s ⟨s.env,s.b,s.H++[(none,.blk 0 f)]⟩:=fun St a w hr=>by
 refine ⟨St,fun _ h=>h,hr.df,hr.sz,hr.env,hr.un,hr.s1,hr.s2,hr.s3,?_,hr.sn,hr.sg⟩
 have ⟨fp,hp⟩:=hr.hp
 refine ⟨fp,fun j g r hj=>?_,hp.dis,hp.own,fun j hj=>hp.out j (by simp at hj;omega)⟩
 rcases Gs j s.H.length with h1|h1
 ·rw [FR h1] at hj;exact hp.rep j g r hj
 ·rw [FZ h1] at hj
  have h2:=(FL.1 hj).1
  simp at h2
  have h3:j=s.H.length:=by omega
  subst h3
  simp at hj
  obtain ⟨rfl,rfl⟩:=hj
  exact ⟨rfl,fun b hb=>hp.out _ (FQ _) b hb⟩
theorem am (i:Nat) {g:Option Nat} {n m:Nat} {f F:Nat→CV} (hH:s.H[i]?=some (g,.blk n f)) (hn:m≤n) (hg:g=none→m=n) (hF:∀ j,j<m→J (f j) (F j)):aZ G s ⟨s.env,s.b,s.H.set i (g,.blk m F)⟩:=fun St a w hr=>by
 refine ⟨St,fun _ h=>h,hr.df,hr.sz,hr.env,hr.un,hr.s1,hr.s2,hr.s3,?_,hr.sn,hr.sg⟩
 have ⟨fp,hp⟩:=hr.hp
 have hlt:i<s.H.length:=(FL.1 hH).1
 refine ⟨fp,fun j q r hj=>?_,hp.dis,hp.own,fun j hj=>hp.out j (by simpa using hj)⟩
 by_cases e:j=i
 ·subst e
  simp [hlt] at hj
  obtain ⟨rfl,rfl⟩:=hj
  have:=hp.rep j g _ hH
  cases g with
  | none=>exact ⟨by rw [hg rfl];exact this.1,this.2⟩
  | some g =>
   have ⟨h1,cur,ty,h2,h3,h4⟩:=this
   exact ⟨h1,cur,ty,h2,by omega,fun l hl=>hF l hl _ _ _ _ (h4 l O)⟩
 ·rw [FU (Ne.symm e)] at hj
  exact hp.rep j q r hj
theorem J.agg6 {f g:Nat→CV} (h0:J (f 0) (g 0)) (h1:J (f 1) (g 1)) (h2:J (f 2) (g 2)) (h3:J (f 3) (g 3)) (h4:J (f 4) (g 4)) (h5:J (f 5) (g 5)):J (.agg 6 f) (.agg 6 g):=J.agg rfl fun i hi=>match i,hi with|0,_=>h0|1,_=>h1|2,_=>h2|3,_=>h3|4,_=>h4|5,_=>h5
def rA (l:List Int) (i:Nat):CV:=.c (.int .i64 (l.getD i 0))
def CS (l:List Int):CV:=.rs 1 l.length fun i _=>rA l i
theorem lp (L:List Int) (j:Nat) (hj:j<L.length):J (fl (L.map fun z=>.c (.int .i64 z)) j) (rA L j):=J.of_eq (by
 rw [bz]
 simp [List.getD,hj,rA])
theorem xj (L:V) (j:Nat) (hj:j<L.length):J (fl (L.map fun z=>.c (.int .u8 (z.toNat:Nat))) j) (bX L j):=J.of_eq (by
 rw [bz]
 simp [List.getD,hj,bX])
theorem sd {x:Operand} {i off n N:Nat} {g:Option Nat} {F:Nat→CV} (l:List Int) (I:s.eval x=.os i g off n 1) (hH:s.H[i]?=some (g,.frz N F)) (hn:n=l.length) (hN:off+n≤N) (hf:∀ a,a<n→J (F (off+a)) (rA l a)):SE G s x (CS l):=by
 subst hn
 refine vy I hH O _ fun a b ha hb=>?_
 rw [show off+(a * 1+b)=off+a by omega]
 exact hf a ha
inductive Aw (P:Program) (f g:Nat→CV):List Field→Prop→Prop where
 | nil:Aw P f g [] True
 | int {fd : Field} {fs : List Field} {k k' : IntKind} {a b : Int} {p : Prop} (h : P.underlying fd.type = some (.int k')) (hn : fd.name ≠ "_") (hf : f fd.offset = .c (.int k a)) (hg : g fd.offset = .c (.int k b)) (t : Aw P f g fs p) : Aw P f g (fd :: fs) (a = b ∧ p)
 | bool {fd : Field} {fs : List Field} {a b : Bool} {p : Prop} (h : P.underlying fd.type = some .bool) (hn : fd.name ≠ "_") (hf : f fd.offset = .c (.bool a)) (hg : g fd.offset = .c (.bool b)) (t : Aw P f g fs p) : Aw P f g (fd :: fs) (a = b ∧ p)
 | str {fd : Field} {fs : List Field} {a b : ByteArray} {p : Prop} (h : P.underlying fd.type = some .string) (hn : fd.name ≠ "_") (hf : f fd.offset = .c (.string a)) (hg : g fd.offset = .c (.string b)) (t : Aw P f g fs p) : Aw P f g (fd :: fs) (a = b ∧ p)
theorem fk {d:TypeDesc} {t:TypeId} (h:P.underlying t=some d) (ha:eD P t=false) {cs:Array Value} {i:Nat} {v:Value} (hv:cs[i]?=some v) (W:World):(part t cs i).run P W=.ok v W:=by
 simp [part,jM h,ha,hv]
theorem ox {f g:Nat→CV} {fs:List Field} {p:Prop} (h:Aw P f g fs p) {al:List Addr} {St:Nat→Prop} {w:World} {xs ys:Array Value} {n:Nat} (I:xs.size=n) (hy:ys.size=n) (hf:∀ i,i<n→ai al St w (f i) (xs.getD i undef)) (hg:∀ i,i<n→ai al St w (g i) (ys.getD i undef))
  (hoff:(fs.all fun fd=>Nat.blt fd.offset n)=true) (d:Nat) (W:World):∃ r:Bool,(Op.eqFields (d+1) xs ys fs).run P W=.ok r W∧(r=true↔p):=by
 have get:∀ (c:Array Value) (q:Nat→CV) (i:Nat) (v:Value),c.size=n→i<n→(∀ i,i<n→ai al St w (q i) (c.getD i undef))→q i=.c v→c[i]?=some v:=fun c q i v hc hi hq he=>by
  have:=hq i hi
  rw [he] at this
  have:c.getD i undef=v:=this
  rw [← this]
  have:i<c.size:=by omega
  simp [this]
 induction h with
 | nil=>exact ⟨true,by simp [Op.eqFields],by simp⟩
 | @int fd fs k k' a b p h hn h1 h2 _ ih =>
  simp only [Ha,FK] at hoff
  have ⟨r,hr,hp⟩:=ih hoff.2
  have hlt:fd.offset<n:=FS hoff.1
  have ha:eD P fd.type=false:=by unfold eD;rw [h]
  have e1:=fk h ha (get xs f _ _ I hlt hf h1) W
  have e2:=fk h ha (get ys g _ _ hy hlt hg h2) W
  simp only [Op.eqFields,ne_eq,hn,HO,if_true,Sem.run_bind,e1,e2,Result.andThen_ok,run_equalIn_int W d fd.type k k' a b h,Sem.run_ite]
  by_cases hab:a=b
  ·subst hab;exact ⟨r,by simp [hr],by simp [hp]⟩
  exact ⟨false,by simp [hab],by simp [hab]⟩
 | @bool fd fs a b p h hn h1 h2 _ ih =>
  simp only [Ha,FK] at hoff
  have ⟨r,hr,hp⟩:=ih hoff.2
  have hlt:fd.offset<n:=FS hoff.1
  have ha:eD P fd.type=false:=by unfold eD;rw [h]
  have e1:=fk h ha (get xs f _ _ I hlt hf h1) W
  have e2:=fk h ha (get ys g _ _ hy hlt hg h2) W
  simp only [Op.eqFields,ne_eq,hn,HO,if_true,Sem.run_bind,e1,e2,Result.andThen_ok,run_equalIn_bool' W d fd.type a b h,Sem.run_ite]
  by_cases hab:a=b
  ·subst hab;exact ⟨r,by simp [hr],by simp [hp]⟩
  exact ⟨false,by simp [hab],by simp [hab]⟩
 | @str fd fs a b p h hn h1 h2 _ ih =>
  simp only [Ha,FK] at hoff
  have ⟨r,hr,hp⟩:=ih hoff.2
  have hlt:fd.offset<n:=FS hoff.1
  have ha:eD P fd.type=false:=by unfold eD;rw [h]
  have e1:=fk h ha (get xs f _ _ I hlt hf h1) W
  have e2:=fk h ha (get ys g _ _ hy hlt hg h2) W
  simp only [Op.eqFields,ne_eq,hn,HO,if_true,Sem.run_bind,e1,e2,Result.andThen_ok,run_equalIn_string W d fd.type a b h,Sem.run_ite]
  by_cases hab:a=b
  ·subst hab;exact ⟨r,by simp [hr],by simp [hp]⟩
  exact ⟨false,by simp [hab,iF],by simp [hab]⟩
theorem pD {n:Nat} {f g:Nat→CV} {fs:Array Field} {p:Prop} [Decidable p] {t u:TypeId} {x y:Operand} (ho:o.op=.binOp .neq t x y u) (I:s.eval x=.agg n f) (hy:s.eval y=.agg n g) (hS:P.underlying t=some (.struct fs)) (hp:P.stoodInHeld t=false) (hG:P.eqGuardType P.depth t=false) (hE:Aw P f g fs.toList p) (hoff:(fs.toList.all fun fd=>Nat.blt fd.offset n)=true):aN P G o s (.c (.bool (decide (¬ p)))):=fun St a w h=>by
 have ⟨xs,ex,hx1,DQ⟩:=c7 h I
 have ⟨ys,ey,hy1,hy2⟩:=c7 h hy
 have hfs:P.fieldsOf t=fs:=by simp [Program.fieldsOf,hS]
 refine ⟨.bool (decide (¬ p)),fun W _=>?_,rfl⟩
 obtain ⟨r,hr,hiff⟩:=ox hE hx1 hy1 DQ hy2 hoff 9998 W
 simp only [execOp,ho,ex,ey]
 refine iz ?_
 simp only [Sem.run_bind,run_eqGuard_agg _ _ _ _ _ _ _ hG,Result.andThen_ok,run_neq_struct]
 rw [show (10000:Nat)=9999+1 from rfl,run_equalIn_agg W 9999 t xs ys (by rw [hfs];exact hS) hp,hfs,hr]
 have:r=decide p:=by rw [GT,hiff];simp
 simp [this]
theorem ar.frzDead {g:Option Nat} {n:Nat} {f:Nat→CV} {l m:List (Option Nat×av)} (t:ar l m):ar ((g,.frz n f)::l) ((g,.dead)::m) :=
 .dead (fun al St w F h=>by
  cases g with
  | none=>exact h.2
  | some g=>exact h.1) t
theorem xk {cs:List CV} {j:Nat} (hj:j<cs.length):fl cs j=cs[j]:=by rw [bz];simp [List.getD,hj]
theorem sR {cs ds:List CV} (h:iX cs ds):cs.length=ds.length∧∀ j,J (fl cs j) (fl ds j):=by
 induction h with
 | nil=>exact ⟨rfl,fun _=>cZ⟩
 | cons h _ ih=>exact ⟨by simp [ih.1],fun j=>match j with|0=>h|j+1=>ih.2 j⟩
theorem er {cs:List CV} {l2:V} (h:iX cs (l2.map fun c=>.c (.int .u8 (c.toNat:Nat)))):∀ j,j<l2.length→J (fl cs (0+j)) (bX l2 j):=fun j hj=>by
 rw [Nat.zero_add]
 exact ((sR h).2 j).trans (xj l2 j hj)
theorem hJ {cs:List CV} {m:Nat} (h:cs.all dx=true) (hm:m * 1=cs.length):∀ j,j<m * 1→dx (fl cs (0+j))=true:=fun j hj=>by
 rw [Nat.zero_add,xk O]
 exact F5.1 h _ (Gv ..)
theorem x5 {al:List Addr} {f:FuncId} {args:List CV} {m:CV} {w:World} {vals:Array Value} (hA:c4 gs P f args m) (hS:cd w gs al) (hs:vals.size=args.length) (hv:∀ i,ai al (fun b=>b<w.heap.size) w (fl args i) (vals.getD i undef)) :
  Calls P f vals w fun e w'=>∃ v St',e=.returned v∧ai al St' w' m v∧Below w.heap.size w w':=by
 have hg:∀ g ∈ iB gs,g<w.heap.size:=hS.lt
 have ha:∀ a ∈ al,a.block<w.heap.size:=fun a ha=>by
  have ⟨c,t,hc⟩:=hS.row a ha
  exact (FY.1 hc).1
 refine (hA al w (fun b=>b<w.heap.size) (fun _=>False) vals ⟨fun _ h=>h,hS,⟨hg,ha⟩,⟨fun _ _=>False,fun i g r hi=>by simp at hi,fun _ _ _ h=>h.elim,fun _ _ h=>h.elim,fun _ _ _ h=>h⟩,fun _ h=>h.elim⟩ hs hv).mono ?_
 rintro e w' ⟨v,r,H',St',he,⟨rfl,rfl⟩,hr,hu,_⟩
 exact ⟨v,St',he,hr,hu.below⟩
theorem law_calls {al:List Addr} {f:FuncId} {args:List CV} {w:World} {vals:Array Value} (hA:c4 gs P f args (.c (.bool true))) (hS:cd w gs al) (hs:vals.size=args.length) (hv:∀ i,ai al (fun b=>b<w.heap.size) w (fl args i) (vals.getD i undef)) :
  Calls P f vals w fun e w'=>e=.returned (.bool true)∧Below w.heap.size w w' :=
 (x5 hA hS hs hv).mono fun e w' ⟨v,St',he,hr,hb⟩=>⟨by rw [he];exact F7 _ hr,hb⟩
theorem mr {f:FuncId} {args:List CV} {r:Value} (h:∀ (al:List Addr) (w:World) (St:Nat→Prop) (vals:Array Value),cd w gs al→vals.size=args.length→(∀ i,ai al St w (fl args i) (vals.getD i undef))→Calls P f vals w fun e w'=>e=.returned r∧Below w.heap.size w w'):c4 gs P f args (.c r) :=
 fun al w St F0 vals he hs hv=>(h al w St vals he.sn hs hv).mono fun e w' ⟨h1,h2⟩=>by
  refine ⟨r,.c r,[],St,h1,⟨rfl,rfl⟩,rfl,⟨h2.os,h2.tape,h2.output,h2.size,fun k hk _=>h2.block k hk,fun b cur t z hb=>⟨cur,z,(h2.block b (FY.1 hb).1).trans hb,rfl⟩⟩,fun _ h=>h,fun _ h=>.inl h,fun b hb=>Ge (he.s3 b hb) h2.size,a6.none _ _ _ _ _⟩
theorem AB {vals:Array Value} (h:vals.size=1):vals=#[vals.getD 0 undef]:=by
 apply Array.ext
 ·simp [h]
 ·intro i h1 h2
  have:i=0:=by omega
  subst this
  simp [h]
theorem rZ {vals:Array Value} (h:vals.size=2):vals=#[vals.getD 0 undef,vals.getD 1 undef]:=by
 apply Array.ext
 ·simp [h]
 ·intro i h1 h2
  have:i=0∨i=1:=by omega
  rcases this with e|e<;>subst e<;>simp [h]
theorem rc {e:TypeId} {j n i:Nat} {g:Option Nat} {z:Int} {t:TypeId} {x y:Operand} {k:IntKind} (ho:o.op=.indexAddr t x y) (I:s.eval x=.os j g 0 n 1) (hy:s.eval y=.c (.int k z)) (h1:P.underlying t=some (.slice e))
  (h5:(P.info? e).map (·.size)=some 1) (hz:z=(i:Int)) (hi:i<n):aN P G o s (.op j g i):=by
 have:=jV (G:=G) ho I hy h1 h5 hz hi
 rwa [Nat.zero_add,Hv] at this
theorem yJ {al:List Addr} {St:Nat→Prop} {w:World}:∀ i,ai al St w (fl [] i) ((List.toArray ([]:List Value)).getD i undef):=fun _=>trivial
theorem pC {al:List Addr} {St:Nat→Prop} {w:World} {c:CV} {cs:List CV} {v:Value} {vs:List Value} (h:ai al St w c v) (t:∀ i,ai al St w (fl cs i) ((List.toArray vs).getD i undef)):∀ i,ai al St w (fl (c::cs) i) ((List.toArray (v::vs)).getD i undef)
 | 0=>h
 | i+1=>by
  have:=t i
  simpa [fl,GI] using this
theorem po (d:Nat) {i n N:Nat} {g:Option Nat} {F:Nat→CV} (l:V) (hl:look s.env s.b d=.os i g 0 n 1) (hH:s.H[i]?=some (g,.frz N F)) (hn:n=l.length) (hF:(N,F)=(l.length,bX l)) :
  aZ G s ⟨(d,dL l)::s.env,s.b,s.H⟩:=by
 cases hF
 subst hn
 exact jI d (fun a _=>bX l a) hl hH O (fun a b ha hb=>J.of_eq (by rw [show 0+(a * 1+b)=a by omega]))
def CO {α:Type} (k:Nat) (C:List α→Nat→CV):Prop:=∀ l l2 j,j<(l.length+l2.length) * k→(if j<l.length * k then C l j else C l2 (j-l.length * k))=C (l++l2) j
theorem aP {α:Type} (k:Nat) (e:α→Nat→CV) (d:α):CO k (cF k e d):=fun l l2 j hj=>by
 rcases Nat.eq_zero_or_pos k with h0|h0
 ·subst h0;simp at hj
 split
 ·rename_i h1
  have h2:j / k<l.length:=Hy (by rw [Hn];exact h1)
  simp only [cF,FJ,FR h2]
 ·rename_i h1
  rw [G8] at hj
  obtain ⟨q,rfl⟩:∃ q,j=l.length * k+q:=⟨j-l.length * k,by omega⟩
  rw [Hk]
  unfold cF
  rw [Hn l.length k,Nat.mul_add_div h0,Nat.mul_add_mod,FJ,FJ,FZ (Nat.le_add_right _ _),Hk]
theorem au {α:Type} {C:List α→Nat→CV} {k:Nat} (hC:CO k C) {e:TypeId} {z:Value} {i n N N' by_ d:Nat} {t u:TypeId} {p q:Operand} {env:List (Nat×CV)} {b0:Nat→CV} {H:List (Option Nat×av)} {K:AS→Prop} {g:Option Nat} {f h:Nat→CV} {l l2:List α} {m:Nat} (ho:o.op=.call ⟨.builtin .append,#[p,q],#[t,u]⟩) (I:(⟨env,b0,H⟩:AS).eval p=.os i g 0 n k) (hn:n=l.length) (hH:H[i]?=some (g,.blk N f)) (hN:l.length * k≤N) (hf:∀ j,j<l.length * k→J (f j) (C l j))
  (hsrc:mz P G ⟨env,b0,H⟩ q k m h) (hm:m=l2.length) (hh:∀ j,j<l2.length * k→J (h j) (C l2 j)) (h1:P.underlying t=some (.slice e)) (hu:bK P u=true) (h5:(P.info? e).map (·.size)=some k) (hz:(P.info? e).map (·.zero)=some (some z)) (hby:(P.info? e).map (·.bytes)=some by_) (hzk:z.cells.size=k)
  (h63:l.length+l2.length≤9223372036854775807) (h48:(l.length+l2.length) * by_≤140737488355328) (hleaf:∀ j,j<m * k→dx (h j)=true) (hd:o.dst=some d) (hdN:Nat.blt d G.N=true) (hN':(l++l2).length * k=N')
  (hK:∀ g',K ⟨(d,.os i g' 0 (l++l2).length k)::env,b0,H.set i (g',.blk N' (C (l++l2)))⟩):kE P G o ⟨env,b0,H⟩ K:=by
 subst hm hn
 refine wF ho I hH hN hsrc h1 hu h5 hz hby h63 h48 hzk (C (l++l2)) (fun j hj=>?_) hleaf hd hdN FX.symm (by rw [← FX];exact hN') hK
 rw [← hC l l2 j hj]
 unfold kC
 split
 ·rename_i h;exact hf j h
 ·rename_i h
  refine hh _ ?_
  rw [G8] at hj
  omega
theorem bR {cs:List CV} {m k:Nat} (h:cs.all dx=true) (hm:m * k=cs.length):∀ j,j<m * k→dx (fl cs (0+j))=true:=fun j hj=>by
 rw [Nat.zero_add,xk O]
 exact F5.1 h _ (Gv ..)
end
theorem A8:(prog.info? 3).map (·.zero)=some (some (.int .i64 0)):=by kernel_rfl
theorem tE:(prog.info? 5).map (·.size)=some 1:=by kernel_rfl
theorem u3:(prog.info? 5).map (·.bytes)=some 1:=by kernel_rfl
theorem kV:(prog.info? 5).map (·.zero)=some (some (.int .u8 0)):=by kernel_rfl
theorem zd:bK prog 22=true:=by kernel_rfl
theorem jC:(prog.info? 24).map (·.zero)=some (some (.agg #[.int .i64 0,.string ByteArray.empty,.slice none 0 0])):=by kernel_rfl
theorem ui:mI prog 24=some [(0,1),(1,1),(2,1)]:=by kernel_rfl
theorem iM:bK prog 28=true:=by kernel_rfl
theorem eQ:(prog.info? 30).map (·.zero)=some (some (.agg #[.int .i64 0,.string ByteArray.empty,.slice none 0 0])):=by kernel_rfl
theorem mJ:mI prog 30=some [(0,1),(1,1),(2,1)]:=by kernel_rfl
theorem ol:(prog.info? 33).map (·.size)=some 4:=by kernel_rfl
theorem CD:(prog.info? 33).map (·.bytes)=some 40:=by kernel_rfl
theorem iq:(prog.info? 33).map (·.zero)=some (some (.agg #[.int .i64 0,.string ByteArray.empty,.int .i64 0,.int .i64 0])):=by kernel_rfl
theorem Dp:mI prog 33=some [(0,1),(1,1),(2,1),(3,1)]:=by kernel_rfl
theorem Ei:(prog.info? 35).map (·.zero)=some (some (.agg #[.bool false,.int .i64 0,.string ByteArray.empty,.int .i64 0,.int .i64 0])):=by kernel_rfl
theorem gr:(prog.info? 42).map (·.size)=some 4:=by kernel_rfl
theorem iV:(prog.info? 42).map (·.bytes)=some 40:=by kernel_rfl
theorem cg:(prog.info? 42).map (·.zero)=some (some (.agg #[.int .i64 0,.string ByteArray.empty,.int .i64 0,.int .i64 0])):=by kernel_rfl
theorem Es:mI prog 42=some [(0,1),(1,1),(2,1),(3,1)]:=by kernel_rfl
theorem vh:(prog.info? 58).map (·.size)=some 1:=by kernel_rfl
theorem xQ:(prog.info? 58).map (·.bytes)=some 24:=by kernel_rfl
theorem mL:bK prog 58=true:=by kernel_rfl
theorem lw:(prog.info? 58).map (·.zero)=some (some (.slice none 0 0)):=by kernel_rfl
theorem wv:bK prog 96=true:=by kernel_rfl
theorem Du:bK prog 102=true:=by kernel_rfl
theorem CX:(prog.info? 104).map (·.zero)=some (some (.agg #[.slice none 0 0,.slice none 0 0,.nilIface])):=by kernel_rfl
theorem Dt:mI prog 104=some [(0,1),(1,1),(2,1)]:=by kernel_rfl
theorem CW:(prog.info? 130).map (·.zero)=some (some (.agg #[.int .i64 0,.slice none 0 0])):=by kernel_rfl
theorem Dr:mI prog 130=some [(0,1),(1,1)]:=by kernel_rfl
theorem Db:(prog.info? 150).map (·.size)=some 2:=by kernel_rfl
theorem D4:(prog.info? 150).map (·.bytes)=some 32:=by kernel_rfl
theorem rW:(prog.info? 150).map (·.zero)=some (some (.agg #[.int .i64 0,.slice none 0 0])):=by kernel_rfl
theorem Dq:mI prog 150=some [(0,1),(1,1)]:=by kernel_rfl
theorem pg:(prog.info? 207).map (·.zero)=some (some (.agg #[.int .i64 0,.int .i64 0,.int .i64 0,.int .i64 0,.int .i64 0,.int .i64 0])):=by kernel_rfl
theorem AE:mI prog 207=some [(0,1),(1,1),(2,1),(3,1),(4,1),(5,1)]:=by kernel_rfl
theorem pk (f:Nat→CV) (off:Nat) (x:CV) (j:Nat):jG f off [x] j=if j=off then x else f j:=by
 rw [fg]
 by_cases h:j=off
 ·subst h;rw [FO (by simp),FO rfl,HH];rfl
 ·rw [FN (by simp;omega),FN h]
section
variable {P:Program} {G:Gh} {ops:Array Oper} {o:Oper} {s:AS} {r:List Oper} {K:AS→Prop} {t u:TypeId} {x y:Operand} {env:List (Nat×CV)} {b0:Nat→CV} {H:List (Option Nat×av)}
theorem xZ {P:Program} {f:FuncId} {H:List (Option Nat×av)} {args:List CV} {Q:CV→List (Option Nat×av)→Prop} (j:Nat) {k n:Nat} {F:Nat→Nat→CV} (hj:fl args j=.rs k n F) (h:n≤9223372036854775807→AC gs P f H args Q):AC gs P f H args Q:=fun al w St F0 vals he hs hv=>by
 have h1:=hv j
 rw [hj] at h1
 have ⟨ao,cap,_,h2,h3,_⟩:=id h1
 exact h O al w St F0 vals he hs hv
theorem J.nilS' {n k:Nat} {f:Nat→Nat→CV} (h:n=0):J (.c (.slice none 0 0)) (.rs k n f):=by subst h;exact J.nilS k f
theorem uL (op:BinOp) (t:TypeId) (x y:Operand) (a b:Option Addr) (n c n' c':Nat) (W:World):(eqGuard op t x y (.slice a n c) (.slice b n' c')).run P W=.ok () W:=by
 unfold eqGuard
 split<;>simp
theorem mF {e:TypeId} (ht:P.underlying t=some (.slice e)) (a:Option Addr) (n c:Nat) (W:World):(Op.equal t (.slice a n c) (.slice none 0 0)).run P W=.ok a.isNone W:=by
 show (Op.equalIn 10000 t (.slice a n c) (.slice none 0 0)).run P W=_
 rw [show (10000:Nat)=9999+1 from rfl,Op.equalIn]
 cases a<;>simp only [underlying,Sem.run_bind,run_program,Result.andThen_ok,ht,Sem.run_pure]<;>rfl
theorem gQ {e:TypeId} (ho:o.op=.binOp .eql t x y u) {a:Act} {ao:Option Addr} {n c:Nat} (I:a.eval x=.slice ao n c) (hy:a.eval y=.slice none 0 0) (ht:P.underlying t=some (.slice e)) (W:World):(execOp a.eval o).run P W=.ok (.value (.bool ao.isNone)) W:=by
 simp only [execOp,ho,I,hy]
 refine iz ?_
 simp [uL,binOp,mF ht]
theorem yW {e:TypeId} {i off n k:Nat} {g:Option Nat} (ho:o.op=.binOp .eql t x y u) (I:s.eval x=.os i g off n k) (hy:s.eval y=.c (.slice none 0 0)) (ht:P.underlying t=some (.slice e)):aN P G o s (.c (.bool g.isNone)):=fun St a w h=>by
 have he:=c7 h I
 cases g with
 | none=>exact ⟨_,fun W _=>gQ ho he.2 (iR h hy) ht W,rfl⟩
 | some b=>have ⟨cap,e0,_⟩:=he;exact ⟨_,fun W _=>gQ ho e0 (iR h hy) ht W,rfl⟩
theorem jL {e:TypeId} {k n d:Nat} {f:Nat→Nat→CV} (hw:aj G ops o ⟨env,b0,H⟩ true) (ho:o.op=.binOp .eql t x y u) (I:(⟨env,b0,H⟩:AS).eval x=.rs k n f) (hy:(⟨env,b0,H⟩:AS).eval y=.c (.slice none 0 0)) (ht:P.underlying t=some (.slice e)) (hd:o.dst=some d) (hN:Nat.blt d G.N=true)
  (h1:n=0→bm P G ops r ⟨(d,.c (.bool true))::env,b0,H⟩ K) (h2:bm P G ops r ⟨(d,.c (.bool false))::env,b0,H⟩ K):bm P G ops (o::r) ⟨env,b0,H⟩ K:=fun a w ⟨St,hr⟩ Q hQ=>by
 unfold f7
 rw [FO (hw St a w hr)]
 have ⟨ao,cap,e0,h3,h4,h5,h6⟩:=c7 hr I
 refine .inl ?_
 unfold Oper.wp
 rw [gQ ho e0 (iR hr hy) ht w]
 have put:∀ b:Bool,ab G St ⟨(d,.c (.bool b))::env,b0,H⟩ (a.put o.dst (.bool b)) w:=fun b=>by
  have:=hr.put (dst:=o.dst) (v:=.c (.bool b)) (x:=.bool b) (bA (ez hd hN)) rfl
  rwa [hd] at this ⊢
 cases ao with
 | none=>exact h1 (by have:=h5 rfl;omega) _ _ ⟨St,put true⟩ Q hQ
 | some ad=>exact h2 _ _ ⟨St,put false⟩ Q hQ
theorem qS (d:Nat) {i n N:Nat} {g:Option Nat} {cs:List CV} (l:V) (hl:look s.env s.b d=.os i g 0 n 1) (hH:s.H[i]?=some (g,.frz N (fl cs))) (hn:n=l.length) (hN:Nat.ble n N=true) (he:iX cs (l.map fun c=>.c (.int .u8 (c.toNat:Nat)))) :
  aZ G s ⟨(d,dL l)::s.env,s.b,s.H⟩:=by
 subst hn
 have hN:=FS hN
 exact jI d (fun a _=>bX l a) hl hH O (fun a b ha hb=>by
  have:=er he a ha
  rwa [show 0+(a * 1+b)=0+a by omega])
theorem Bl (d:Nat) {i n N:Nat} {g:Option Nat} {F:Nat→CV} (l:List Int) (hl:look s.env s.b d=.os i g 0 n 1) (hH:s.H[i]?=some (g,.frz N F)) (hn:n=l.length) (hN:Nat.ble n N=true) (he:∀ j,j<l.length→J (F j) (rA l j)) :
  aZ G s ⟨(d,CS l)::s.env,s.b,s.H⟩:=by
 subst hn
 have hN:=FS hN
 exact jI d (fun a _=>rA l a) hl hH O (fun a b ha hb=>by
  have:=he a ha
  rwa [show 0+(a * 1+b)=a by omega])
def rY:IntKind→Bool|.i8=>false|_=>true
theorem qQ {k:IntKind} (h:rY k=true) {z:Int} (h0:0≤z) (h1:z<256):k.wrap z=z:=by
 cases k<;>first|(simp [rY] at h;done)|(refine fD ?_;show _∧_;omega)
theorem vU {c:UInt8} {k':IntKind} {d:TypeDesc} (ho:o.op=.convert t u x) (I:s.eval x=.c (.int .u8 ((c.toNat:Nat):Int))) (h1:P.underlying t=some d) (h2:P.underlying u=some (.int k')) (hk:rY k'=true):aN P G o s (.c (.int k' ((c.toNat:Nat):Int))) :=
 gz ho I h1 h2 _ (qQ hk O (by have:=c.toNat_lt;omega))
theorem Cw {e:TypeId} {z:Value} {n c k by_ d:Nat} {kn kc:IntKind} {zn zc:Int} {F:Nat→CV} (ho:o.op=.makeSlice t x y) (I:(⟨env,b0,H⟩:AS).eval x=.c (.int kn zn)) (hy:(⟨env,b0,H⟩:AS).eval y=.c (.int kc zc)) (hn:zn=(n:Int)) (hc:zc=(c:Int)) (hnc:n≤c) (h1:P.underlying t=some (.slice e)) (h5:(P.info? e).map (·.size)=some k) (hz:(P.info? e).map (·.zero)=some (some z)) (hby:(P.info? e).map (·.bytes)=some by_)
  (h48:c * by_≤140737488355328) (h63:c≤9223372036854775807) (hF:∀ j,j<n * k→J (.c (z.cells[j % z.cells.size]!)) (F j)) (hd:o.dst=some d) (hN:Nat.blt d G.N=true)
  (hK:∀ g,K ⟨(d,.os H.length g 0 n k)::env,b0,H++[(g,.blk (n * k) F)]⟩):eG P G o ⟨env,b0,H⟩ K :=
 eG.new (ez hd hN) (fun g=>.os H.length g 0 n k) (fun St a w hr=>by
  have ⟨info,hi,h6⟩:=FM.1 h5
  have ⟨info',hi',hz⟩:=FM.1 hz
  obtain rfl:=Ga (hi.symm.trans hi')
  have ⟨info',hi',hby⟩:=FM.1 hby
  obtain rfl:=Ga (hi.symm.trans hi')
  subst hn hc
  have hb':(info.bytes:Int) * (c:Int)≤281474976710656:=by
   have h:((info.bytes * c:Nat):Int)≤281474976710656:=by rw [Hn,hby];omega
   rwa [Int.natCast_mul] at h
  have hr':=run_make (P:=P) w t e info z h1 hi hz kn kc n c O O hb' O
  simp only [Int.toNat_natCast] at hr'
  have hsz:(madeCells z.cells (c * info.size)).size=c * k:=by rw [h6];simp [madeCells]
  refine ⟨w.alloc (.cells (madeCells z.cells (c * info.size)) e),w.heap.size,_,e,.slice (some ⟨w.heap.size,0,none⟩) n c,?_,bk w _,FQ _,heap_alloc_new w _,?_,fun j hj=>?_,c,rfl,hnc,h63,_,e,(0,0),heap_alloc_new w _,?_⟩
  ·simp only [execOp,ho,iR hr I,iR hr hy]
   exact iz hr'
  ·rw [hsz];exact Gr _ hnc
  ·refine hF j hj _ _ _ _ ?_
   have hj2:j<c * k:=Ge hj (Gr _ hnc)
   show _=_
   rw [h6]
   simp [madeCells,hj2]
  ·rw [hsz];omega) (fun g=>by rw [ba hd];exact hK g)
theorem xp {ats:Array TypeId} (ho:o.op=.call ⟨.builtin .cap,#[x],ats⟩) {a:Act} {v:Value} {w:World} (h:(Builtin.cap_ ats o.type #[a.eval x]).run P w=.ok v w):(execOp a.eval o).run P w=.ok (.value v) w:=by
 simp [execOp,ho,resolve,invoke,builtin,h]
theorem sk {e:TypeId} (ho:o.op=.call ⟨.builtin .cap,#[x],#[t]⟩) (I:s.eval x=.c (.slice none 0 0)) (h1:P.underlying t=some (.slice e)):aN P G o s (.c (.int .i64 0)):=fun St a w h =>
 ⟨_,fun W _=>xp ho (v:=.int .i64 0) (by rw [iR h I];simp [Builtin.cap_,underlying,h1,goInt]),rfl⟩
theorem tY {e:TypeId} {m l v:Nat} {lo hi:Option Operand} (ho:o.op=.slice t x lo hi none) (I:s.eval x=.c (.slice none 0 0)) (h1:P.underlying t=some (.slice e)) (h5:(P.info? e).map (·.size)=some m)
  (hl:Bd s 0 lo l) (hu:Bd s 0 hi v) (hlv:l≤v) (hvn:v≤0):aN P G o s (.c (.slice none 0 0)):=fun St a w h=>by
 have ⟨info,hi',hs⟩:=FM.1 h5
 have hl0:l=0:=by omega
 have hv0:v=0:=by omega
 subst hl0 hv0
 refine ⟨.slice none 0 0,fun W _=>cl ho ?_,rfl⟩
 rw [iR h I]
 simp [Instr.sliceAt,Instr.slice,underlying,h1,fJ h hl hu hlv hvn (FQ _),sizeOf,typeInfo,hi']
theorem oy {e ty:TypeId} {info:TypeInfo} {z:Value} {n:Nat} {w:World} (h1:P.underlying t=some (.slice e)) (hu:P.underlying u=some (.int .i64)) (hi:P.info? e=some info) (hz:info.zero=some z) (hk:0<info.size) (hn:0<n) (h63:n≤9223372036854775807) (h48:n * info.bytes≤140737488355328) :
  (Builtin.append_ #[t,u] ty #[.slice none 0 0,.int .i64 (n:Nat)]).run P w=.ok (.slice (some ⟨w.heap.size,0,none⟩) n (grownCap w n 0 e)) (w.drew.alloc (.cells (#[]++Builtin.zeroCells z.cells n++Builtin.zeroCells z.cells (grownCap w n 0 e-n)) e)):=by
 have hw:IntKind.i64.wrap (n:Int)=(n:Int):=fD (k:=.i64) (by show _∧_;omega)
 have hneg:¬ ((n:Int)<0):=by omega
 have hb:¬ ((n:Int) * (info.bytes:Int)>2 ^ 48):=by
  have h:((n * info.bytes:Nat):Int)≤140737488355328:=by omega
  rw [Int.natCast_mul] at h;omega
 have hnot:¬ (0+n≤0):=by omega
 have hfit:=growslice_fits (need:=n) (old:=0) O h48
 have h49:¬ (Builtin.nextslicecap n 0 * info.bytes>2 ^ 48):=by omega
 have h64:¬ (((n:Nat):Int)>IntKind.i64.max∧(true=true∨info.bytes=0)):=by simp [IntKind.max,IntKind.bits,IntKind.signed];omega
 have hch:(choose (.appendCap n 0 e)).run P w=.ok (grownCap w n 0 e) w.drew:=by simp [Question.forced,grownCap]
 have hns:¬ (n * info.size=0):=by have:=Nat.mul_pos hn hk;omega
 simp only [Builtin.append_,GZ,Gx,GR,underlying,Sem.run_bind,run_program,Result.andThen_ok,h1,hu,Sem.run_pure,sizeOf,typeInfo,hi,asInt,asIntOf,hw,FN hneg,FN hb,Int.toNat_natCast,Nat.zero_add,if_true,FN (show ¬ n≤0 by omega),zeroValue,Builtin.firstCells,Bool.not_true,GW,if_false,FN hns,newRow]
 rw [FN (by simp [IntKind.max,IntKind.bits,IntKind.signed];omega)]
 simp only [Sem.run_bind,run_program,Result.andThen_ok,Sem.run_pure,hi,hz,FN h49,hch,run_askRoom,run_newObj,World.alloc_eq,World.size_drew]
theorem Cx {e:TypeId} {z:Value} {n k by_ d:Nat} {zn:Int} {F:Nat→CV} (ho:o.op=.call ⟨.builtin .append,#[x,y],#[t,u]⟩) (I:(⟨env,b0,H⟩:AS).eval x=.c (.slice none 0 0)) (hy:(⟨env,b0,H⟩:AS).eval y=.c (.int .i64 zn)) (hn:zn=(n:Int)) (hn0:0<n) (h1:P.underlying t=some (.slice e)) (hu:P.underlying u=some (.int .i64)) (h5:(P.info? e).map (·.size)=some k) (hk0:0<k) (hz:(P.info? e).map (·.zero)=some (some z)) (hby:(P.info? e).map (·.bytes)=some by_)
  (h48:n * by_≤140737488355328) (h63:n≤4611686018427387904) (hzk:z.cells.size=k) (hd:o.dst=some d) (hN:Nat.blt d G.N=true)
  (hK:∀ g,K ⟨(d,.os H.length g 0 n k)::env,b0,H++[(g,.blk 0 F)]⟩):eG P G o ⟨env,b0,H⟩ K :=
 eG.new (ez hd hN) (fun g=>.os H.length g 0 n k) (fun St a w hr=>by
  have ⟨info,hi,h6⟩:=FM.1 h5
  have ⟨info',hi',hz⟩:=FM.1 hz
  obtain rfl:=Ga (hi.symm.trans hi')
  have ⟨info',hi',hby⟩:=FM.1 hby
  obtain rfl:=Ga (hi.symm.trans hi')
  subst hn
  have hrun:=oy (P:=P) (t:=t) (u:=u) (ty:=o.type) (w:=w) h1 hu hi hz O hn0 O (by rw [hby];exact h48)
  have hgc:n≤grownCap w n 0 e∧grownCap w n 0 e≤9223372036854775807:=by
   have hlt:=Gu (w.tape w.drawn (.appendCap n 0 e)) (show 0<2 ^ 63-n by omega)
   simp only [grownCap,Question.cut]
   omega
  have hsz:(#[]++Builtin.zeroCells z.cells n++Builtin.zeroCells z.cells (grownCap w n 0 e-n)).size=grownCap w n 0 e * k:=by
   simp [Builtin.zeroCells,hzk]
   rw [← G8]
   congr 1
   omega
  have hargs:(#[x,y]:Array Operand).map a.eval=#[a.eval x,a.eval y]:=by simp
  refine ⟨w.drew.alloc (.cells (#[]++Builtin.zeroCells z.cells n++Builtin.zeroCells z.cells (grownCap w n 0 e-n)) e),w.heap.size,_,e,.slice (some ⟨w.heap.size,0,none⟩) n (grownCap w n 0 e),?_,bU w _,FQ _,heap_alloc_new w.drew _,F4 _,fun j hj=>absurd hj (F3 j),grownCap w n 0 e,rfl,hgc.1,hgc.2,_,e,(0,0),heap_alloc_new w.drew _,?_⟩
  exact dT ho (by rw [hargs,iR hr I,iR hr hy];exact hrun)
  ·rw [hsz];omega) (fun g=>by rw [ba hd];exact hK g)
end
theorem J.nilE {n:Nat} (h:n=0):J (.c .nilIface) (.err n):=by subst h;exact J.nil
def CQ (ls:FI):CV:=.rs 1 ls.length fun i _=>dL (ls.getD i [])
theorem vb {G:Gh} {s:AS} (d:Nat) {i n N:Nat} {g:Option Nat} {cs:List CV} (ls:FI) (hl:look s.env s.b d=.os i g 0 n 1) (hH:s.H[i]?=some (g,.frz N (fl cs))) (hn:n=ls.length) (hN:Nat.ble n N=true) (he:iX cs (ls.map dL)) :
  aZ G s ⟨(d,CQ ls)::s.env,s.b,s.H⟩:=by
 subst hn
 have hN:=FS hN
 exact jI d (fun a _=>dL (ls.getD a [])) hl hH O (fun a b ha hb=>by
  have:=(sR he).2 a
  rw [xk (cs:=ls.map dL) (by simpa using ha)] at this
  obtain rfl:b=0:=by omega
  rw [show 0+(a * 1+0)=a by omega]
  simpa [List.getD,ha] using this)
def br (ls:FI):Nat:=(ls.map List.length).sum
theorem lH (a b:FI):br (a++b)=br a+br b:=by simp only [br,HD,List.sum_append]
theorem jJ {ls:FI} {i:Nat} (h:i<ls.length):br (ls.take (i+1))=br (ls.take i)+(ls.getD i []).length:=by
 rw [FV h,lH]
 simp only [br,Gf,Ho,List.sum_cons,List.sum_nil,List.getD,FW h,G5,GV]
theorem om (ls:FI) (i:Nat):br (ls.take i)≤br ls:=by
 have h:=lH (ls.take i) (ls.drop i)
 rw [Hs] at h
 omega
theorem nH {ls:FI} {i:Nat} (h:i<ls.length):(ls.take (i+1)).flatten=(ls.take i).flatten++ls.getD i []:=by
 rw [FV h,Ih,List.flatten_singleton]
 simp only [List.getD,FW h,G5]
theorem jm (ls:FI):ls.flatten.length=br ls:=by simp [br,List.length_flatten]
structure EW (al:List Addr) (St:Nat→Prop) (w:World) (F:Nat→Prop) (E:List (Option Nat×av)) (fp:Nat→Nat→Prop):Prop where
 rep:∀ (i:Nat) (g:Option Nat) (r:av),E[i]?=some (g,r)→r.rep al St w (fp i) g
 dis:∀ i j b,fp i b→fp j b→i=j
 out:∀ i,E.length≤i→∀ b,¬ fp i b
 all:∀ b,F b↔∃ i,fp i b
def BV {γ:Type} (gd:γ→Nat) (E:γ→List (Option Nat×av)):OP where
 p al St w g F:=∃ x,gd x=g∧∃ fp,EW al St w F (E x) fp
 st:=fun he hs hF ⟨x,I,fp,h⟩=>⟨x,I,fp,fun i g r hi=>av.rep_evo he hs (fun b hb=>hF b ((h.all b).2 ⟨i,hb⟩)) (h.rep i g r hi),h.dis,h.out,h.all⟩
def ir {γ:Type} (g:Nat) (gd:γ→Nat) (E:γ→List (Option Nat×av)):Option Nat×av:=(some g,.obj (BV gd E))
theorem a6.pack {al:List Addr} {St:Nat→Prop} {w:World} {base:Nat} {F0:Nat→Prop} {γ:Type} {gd:γ→Nat} {E:γ→List (Option Nat×av)} (x:γ) {B:List (Option Nat×av)} (h:a6 al St w base F0 (E x++B)):a6 al St w base F0 (ir (gd x) gd E::B):=by
 have ⟨fp,hp⟩:=h
 refine ⟨fun j b=>match j with|0=>∃ i,i<(E x).length∧fp i b|j+1=>fp ((E x).length+j) b,fun j g r hj=>?_,fun i j b hi hj=>?_,fun i b hi=>?_,fun i hi b hb=>?_⟩
 ·cases j with
  | zero =>
   simp only [ir,Gx,F8,Prod.mk.injEq] at hj
   obtain ⟨rfl,rfl⟩:=hj
   refine ⟨x,rfl,fun i b=>i<(E x).length∧fp i b,fun i g r hi=>?_,fun i j b hi hj=>hp.dis i j b hi.2 hj.2,fun i hi b hb=>by omega,fun b=>Iff.rfl⟩
   have hlt:=(FL.1 hi).1
   have e:(fun b=>i<(E x).length∧fp i b)=fp i:=funext fun b=>propext ⟨fun h=>h.2,fun h=>⟨hlt,h⟩⟩
   show r.rep al St w (fun b=>i<(E x).length∧fp i b) g
   rw [e]
   exact hp.rep i g r (by rw [FR hlt];exact hi)
  | succ j =>
   simp only [GR] at hj
   exact hp.rep _ g r (by rw [FZ O,Hk];exact hj)
 ·cases i with
  | zero =>
   cases j with
   | zero=>rfl
   | succ j=>have ⟨k,hk,hf⟩:=hi;have:=hp.dis _ _ b hf hj;omega
  | succ i =>
   cases j with
   | zero=>have ⟨k,hk,hf⟩:=hj;have:=hp.dis _ _ b hf hi;omega
   | succ j=>have:=hp.dis _ _ b hi hj;omega
 ·cases i with
  | zero=>have ⟨k,hk,hf⟩:=hi;exact hp.own _ b hf
  | succ i=>exact hp.own _ b hi
 ·cases i with
  | zero=>simp at hi
  | succ i=>exact hp.out _ (by simp at hi ⊢;omega) b hb
theorem a6.unpack {al:List Addr} {St:Nat→Prop} {w:World} {base:Nat} {F0:Nat→Prop} {γ:Type} {gd:γ→Nat} {e0:γ→Option Nat×av} {tl:γ→List (Option Nat×av)} {H:List (Option Nat×av)} {i g:Nat} (hH:H[i]?=some (ir g gd fun x=>e0 x::tl x)) (h:a6 al St w base F0 H) :
  ∃ x,gd x=g∧a6 al St w base F0 (H.set i (e0 x)++tl x):=by
 have ⟨fp,hp⟩:=h
 have hlt:=(FL.1 hH).1
 obtain ⟨x,I,fe,he⟩:=hp.rep i _ _ hH
 refine ⟨x,I,fun j b=>if j<H.length then (if j=i then fe 0 b else fp j b) else fe (j-H.length+1) b,fun j q r hj=>?_,fun j k b hj hk=>?_,fun j b hj=>?_,fun j hj b hb=>?_⟩
 ·by_cases h1:j<H.length
  ·rw [FR (by simpa using h1)] at hj
   by_cases h2:j=i
   ·subst h2
    simp [h1] at hj
    simp only [h1,if_true]
    exact he.rep 0 q r (by simp [hj])
   ·rw [FU (Ne.symm h2)] at hj
    simp only [h1,h2,if_true,if_false]
    exact hp.rep j q r hj
  ·rw [FZ (by simp;omega)] at hj
   simp only [h1,if_false]
   refine he.rep (j-H.length+1) q r ?_
   simpa using hj
 ·have rA:∀ q b,fe q b→fp i b:=fun q b hq=>(he.all b).2 ⟨q,hq⟩
  by_cases h1:j<H.length<;>by_cases h2:k<H.length<;>simp only [h1,h2,if_true,if_false] at hj hk
  ·by_cases h3:j=i<;>by_cases h4:k=i<;>simp only [h3,h4,if_true,if_false] at hj hk
   omega
   exact absurd (hp.dis _ _ b (rA _ _ hj) hk).symm h4
   exact absurd (hp.dis _ _ b hj (rA _ _ hk)) h3
   exact hp.dis _ _ b hj hk
  ·by_cases h3:j=i<;>simp only [h3,if_true,if_false] at hj
   ·have:=he.dis _ _ b hj hk;omega
   exact absurd (hp.dis _ _ b hj (rA _ _ hk)) h3
  ·by_cases h4:k=i<;>simp only [h4,if_true,if_false] at hk
   ·have:=he.dis _ _ b hj hk;omega
   exact absurd (hp.dis _ _ b hk (rA _ _ hj)) h4
  ·have:=he.dis _ _ b hj hk;omega
 ·have rA:∀ q b,fe q b→fp i b:=fun q b hq=>(he.all b).2 ⟨q,hq⟩
  by_cases h1:j<H.length<;>simp only [h1,if_true,if_false] at hj
  ·by_cases h3:j=i<;>simp only [h3,if_true,if_false] at hj
   exact hp.own i b (rA _ _ hj)
   exact hp.own j b hj
  exact hp.own i b (rA _ _ hj)
 ·have h1:¬ j<H.length:=by simp at hj;omega
  simp only [h1,if_false] at hb
  exact he.out _ (by simp at hj ⊢;omega) b hb
section
variable {P:Program} {G:Gh} {ops:Array Oper} {s:AS} {K:AS→Prop} {c:Code} {R:Exit→AS→Prop} {γ:Type} {gd:γ→Nat} {e0:γ→Option Nat×av} {tl:γ→List (Option Nat×av)}
theorem aZ.hrel {H':List (Option Nat×av)} (h:∀ {al St w base F0},a6 al St w base F0 s.H→a6 al St w base F0 H'):aZ G s ⟨s.env,s.b,H'⟩:=fun St _ _ hr =>
 ⟨St,fun _ h=>h,hr.df,hr.sz,hr.env,hr.un,hr.s1,hr.s2,hr.s3,h hr.hp,hr.sn,hr.sg⟩
theorem gA {H':List (Option Nat×av)} (l:List Nat) (hl:l.Nodup) (hH:d3 s.H l=H'):aZ G s ⟨s.env,s.b,H'⟩:=aZ.hrel fun h=>h.pick l hl hH
theorem pm {i g:Nat} (hH:s.H[i]?=some (ir g gd fun x=>e0 x::tl x)) {St:Nat→Prop} {a:Act} {w:World} (hr:ab G St s a w):∃ x,gd x=g∧ab G St ⟨s.env,s.b,s.H.set i (e0 x)++tl x⟩ a w:=by
 have ⟨x,I,h2⟩:=hr.hp.unpack hH
 exact ⟨x,I,hr.df,hr.sz,hr.env,hr.un,hr.s1,hr.s2,hr.s3,h2,hr.sn,hr.sg⟩
theorem tA {i g:Nat} (hH:s.H[i]?=some (ir g gd fun x=>e0 x::tl x)) {a:Act} {w:World} (h:nX G s a w):∃ x,gd x=g∧nX G ⟨s.env,s.b,s.H.set i (e0 x)++tl x⟩ a w:=by
 have ⟨St,hr⟩:=h
 have ⟨x,I,h2⟩:=pm hH hr
 exact ⟨x,I,St,h2⟩
theorem qA (i:Nat) {g:Nat} (hH:s.H[i]?=some (ir g gd fun x=>e0 x::tl x)) (h:∀ x,gd x=g→ap P G c ⟨s.env,s.b,s.H.set i (e0 x)++tl x⟩ R):ap P G c s R:=fun a w hr Q hQ=>by
 have ⟨x,I,h2⟩:=tA hH hr
 exact h x I a w h2 Q hQ
end
theorem a6.weak {al:List Addr} {St:Nat→Prop} {w:World} {base:Nat} {F0:Nat→Prop} {H:List (Option Nat×av)} {i n m:Nat} {g:Option Nat} {f F:Nat→CV} (hi:H[i]?=some (g,.blk n f)) (hm:m≤n) (hF:∀ j,j<m→J (f j) (F j)) (h:a6 al St w base F0 H):a6 al St w base F0 (H.set i (g,.blk m F)):=by
 have ⟨fp,hp⟩:=h
 have hlt:=(FL.1 hi).1
 refine ⟨fp,fun j q r hj=>?_,hp.dis,hp.own,fun j hj=>hp.out j (by simpa using hj)⟩
 by_cases e:j=i
 ·subst e
  simp [hlt] at hj
  obtain ⟨rfl,rfl⟩:=hj
  have:=hp.rep j g _ hi
  cases g with
  | none=>exact ⟨by have:=this.1;omega,this.2⟩
  | some g =>
   have ⟨h0,cur,t,h1,h2,h3⟩:=this
   exact ⟨h0,cur,t,h1,by omega,fun a ha=>hF a ha _ _ _ _ (h3 a O)⟩
 ·rw [FU (Ne.symm e)] at hj
  exact hp.rep j q r hj
def lW (H:List (Option Nat×av)) (js:List Nat):List (Option Nat×av):=js.foldl (fun H j=>H.set j (none,.dead)) H
theorem kl:∀ (js:List Nat) (H:List (Option Nat×av)),(lW H js).length=H.length
 | [],_=>rfl
 | j::js,H=>by
  have:=kl js (H.set j (none,.dead))
  rw [Gg] at this
  exact this
theorem pW:∀ (js:List Nat) (H:List (Option Nat×av)) (q:Nat),q<H.length→(lW H js)[q]?=if q ∈ js then some (none,.dead) else H[q]?
 | [],_,_,_=>by simp [lW]
 | j::js,H,q,hq=>by
  have:=pW js (H.set j (none,.dead)) q (by simpa using hq)
  show (lW (H.set j (none,.dead)) js)[q]?=_
  rw [this]
  by_cases h1:q ∈ js
  ·rw [FO h1,FO (F9 _ h1)]
  ·rw [FN h1]
   by_cases h2:q=j
   ·subst h2
    rw [FO F2]
    simp [hq]
   ·rw [FN (by simp [h1,h2]),FU (Ne.symm h2)]
theorem a6.closeN {al:List Addr} {St:Nat→Prop} {w:World} {base:Nat} {F0:Nat→Prop} {γ:Type} {gd:γ→Nat} {E:γ→List (Option Nat×av)} {H:List (Option Nat×av)} (x:γ) (i:Nat) (js:List Nat) (hnd:(i::js).Nodup) (hlt:∀ j ∈ i::js,j<H.length) (hE:d3 H (i::js)=E x) (h:a6 al St w base F0 H) :
  a6 al St w base F0 (lW (H.set i (ir (gd x) gd E)) js):=by
 have ⟨fp,hp⟩:=h
 have hi:i<H.length:=hlt i F2
 have hij:i ∉ js:=(Hi.1 hnd).1
 refine ⟨fun q b=>if q=i then ∃ p:Nat,∃ j,(i::js)[p]?=some j∧fp j b else if q ∈ js then False else fp q b,fun q g r hq=>?_,fun p q b h1 h2=>?_,fun q b hq=>?_,fun q hq b hb=>?_⟩
 ·have hql:q<H.length:=by
   have:=(FL.1 hq).1
   rwa [kl,Gg] at this
  rw [pW _ _ _ (by simpa using hql)] at hq
  by_cases e:q=i
  ·subst e
   rw [FN hij] at hq
   simp [hi] at hq
   obtain ⟨rfl,rfl⟩:=hq
   simp only [if_true]
   refine ⟨x,rfl,fun p b=>∃ j,(q::js)[p]?=some j∧fp j b,fun p g r hp1=>?_,fun p1 p2 b h1 h2=>?_,fun p hp1 b hb=>?_,fun b=>Iff.rfl⟩
   ·rw [← hE,d3,GQ,FM] at hp1
    have ⟨j,hj,he⟩:=hp1
    have hjl:=hlt j (Gy hj)
    have e:(fun b=>∃ j,(q::js)[p]?=some j∧fp j b)=fp j:=funext fun b=>propext ⟨fun ⟨j',h1,h2⟩=>by rw [hj] at h1;cases h1;exact h2,fun h=>⟨j,hj,h⟩⟩
    show r.rep al St w (fun b=>∃ j,(q::js)[p]?=some j∧fp j b) g
    rw [e]
    refine hp.rep j g r ?_
    rw [FW hjl]
    simpa [List.getD,hjl] using he
   ·have ⟨j1,a1,b1⟩:=h1
    have ⟨j2,a2,b2⟩:=h2
    have:=hp.dis _ _ b b1 b2
    subst this
    exact (HN (FL.1 a1).1 hnd).1 (a1.trans a2.symm)
   ·have ⟨j,a,_⟩:=hb
    have:=(FL.1 a).1
    rw [← hE] at hp1
    simp only [d3,H7] at hp1
    omega
  ·by_cases e2:q ∈ js
   ·rw [FO e2] at hq
    cases hq
    simp only [e,e2,if_true,if_false]
    exact fun b hb=>hb
   ·rw [FN e2,FU (Ne.symm e)] at hq
    simp only [e,e2,if_false]
    exact hp.rep q g r hq
 ·have mem:∀ {b:Nat},(∃ p:Nat,∃ j,(i::js)[p]?=some j∧fp j b)→∃ j,j ∈ i::js∧fp j b:=fun ⟨p,j,h1,h2⟩=>⟨j,Gy h1,h2⟩
  by_cases e1:p=i<;>by_cases e2:q=i
  ·rw [e1,e2]
  ·simp only [e1,e2,if_true,if_false] at h1 h2
   by_cases e3:q ∈ js
   ·simp only [e3,if_true] at h2
   ·simp only [e3,if_false] at h2
    have ⟨j,hj,hb⟩:=mem h1
    have:=hp.dis _ _ b hb h2
    subst this
    rcases Gb.1 hj with h|h
    exact absurd h e2
    exact absurd h e3
  ·simp only [e1,e2,if_true,if_false] at h1 h2
   by_cases e3:p ∈ js
   ·simp only [e3,if_true] at h1
   ·simp only [e3,if_false] at h1
    have ⟨j,hj,hb⟩:=mem h2
    have:=hp.dis _ _ b hb h1
    subst this
    rcases Gb.1 hj with h|h
    exact absurd h e1
    exact absurd h e3
  ·simp only [e1,e2,if_false] at h1 h2
   by_cases e3:p ∈ js
   ·simp only [e3,if_true] at h1
   ·by_cases e4:q ∈ js
    ·simp only [e4,if_true] at h2
    ·simp only [e3,e4,if_false] at h1 h2
     exact hp.dis _ _ b h1 h2
 ·by_cases e1:q=i
  ·simp only [e1,if_true] at hq
   have ⟨p,j,_,hb⟩:=hq
   exact hp.own _ b hb
  ·by_cases e2:q ∈ js
   ·simp only [e1,e2,if_true,if_false] at hq
   ·simp only [e1,e2,if_false] at hq
    exact hp.own _ b hq
 ·rw [kl,Gg] at hq
  have e1:q≠i:=by omega
  by_cases e2:q ∈ js
  ·simp only [e1,e2,if_true,if_false] at hb
  ·simp only [e1,e2,if_false] at hb
   exact hp.out q hq b hb
section
variable {P:Program} {G:Gh} {ops:Array Oper} {s:AS} {K:AS→Prop} {c:Code} {R:Exit→AS→Prop} {γ:Type} {gd:γ→Nat}
theorem kF (i m:Nat) (F:Nat→CV) {n:Nat} {g:Option Nat} {f:Nat→CV} (hi:s.H[i]?=some (g,.blk n f)) (hm:m≤n) (hF:∀ j,j<m→J (f j) (F j)):aZ G s ⟨s.env,s.b,s.H.set i (g,.blk m F)⟩:=aZ.hrel fun h=>h.weak hi hm hF
theorem closeN {E:γ→List (Option Nat×av)} (x:γ) (i:Nat) (js:List Nat) (hnd:(i::js).Nodup) (hlt:∀ j ∈ i::js,j<s.H.length) (hE:d3 s.H (i::js)=E x):aZ G s ⟨s.env,s.b,lW (s.H.set i (ir (gd x) gd E)) js⟩:=aZ.hrel fun h=>h.closeN x i js hnd hlt hE
theorem dj {fn:Func} {Q:CV→List (Option Nat×av)→Prop} {e:Exit} {γ:Type} {gd:γ→Nat} {E:γ→List (Option Nat×av)} (he:e=.ret∨e=.normal) (v:CV) (z:γ) (l:List Nat) (hl:l.Nodup) (hH:d3 s.H l=E z++[]) (hres:eI P G fn s v) (hq:Q v [ir (gd z) gd E]):fB P G fn Q e s:=by
 have h:∃ r H',eI P G fn s r∧Q r H'∧∀ St a w,ab G St s a w→a6 G.al St w G.w0.heap.size G.F0 H':=⟨v,_,hres,hq,fun _ _ _ hr=>(hr.hp.pick l hl hH).pack z⟩
 rcases he with rfl|rfl<;>exact h
theorem ig {fn:Func} {e:Exit} {γ:Type} {gd:γ→Nat} {E:γ→List (Option Nat×av)} {v m:CV} (he:e=.ret∨e=.normal) (z:γ) (l:List Nat) (hl:l.Nodup) (hH:d3 s.H l=E z++[]) (hres:eI P G fn s v) (hv:J v m):fB P G fn (fun r H'=>r=m∧H'=[ir (gd z) gd E]) e s:=dj he m z l hl hH (hres.ent hv) ⟨rfl,rfl⟩
theorem iT {P:Program} {G:Gh} {c:Code} {s:AS} {R:Exit→AS→Prop} {φ:Prop} (hφ:∀ a w,nX G s a w→φ) (h:φ→ap P G c s R):ap P G c s R:=fun a w hr Q hQ=>h (hφ a w hr) a w hr Q hQ
theorem zl {G:Gh} {s:AS} (d:Nat) {i off:Nat} {g:Option Nat} (hl:look s.env s.b d=.op i g off):∀ a w,nX G s a w→∃ n,g=some n:=fun a w ⟨St,hr⟩=>by
 have:=c7 hr (x:=.tmp d) hl
 have ⟨b,hb,_⟩:=this
 exact ⟨b,hb⟩
theorem ew {fn:Func} {Q:CV→List (Option Nat×av)→Prop} {e:Exit} {v m:CV} {H':List (Option Nat×av)} (he:e=.ret∨e=.normal) (l:List Nat) (hl:l.Nodup) (hH:d3 s.H l=H') (hres:eI P G fn s v) (hv:J v m) (hq:Q m H'):fB P G fn Q e s:=aY he m H' l hl hH (hres.ent hv) hq
end
def gh (L:List (Option Nat×av)):Option Nat×av:=ir 0 (fun _:Unit=>0) (fun _=>L)
theorem a6.bag_push {al:List Addr} {St:Nat→Prop} {w:World} {base:Nat} {F0:Nat→Prop} {H L:List (Option Nat×av)} {i b:Nat} {x:Option Nat×av} (hb:H[b]?=some (gh L)) (hi:H[i]?=some x) (hib:i≠b) (h:a6 al St w base F0 H) :
  a6 al St w base F0 ((H.set b (gh (x::L))).set i (Option.none,.dead)):=by
 have ⟨fp,hp⟩:=h
 have hbl:=(FL.1 hb).1
 have hil:=(FL.1 hi).1
 obtain ⟨u,_,fe,he⟩:=hp.rep b _ _ hb
 refine ⟨fun q c=>if q=i then False else if q=b then fp i c∨fp b c else fp q c,fun q g r hq=>?_,fun p q c h1 h2=>?_,fun q c hq=>?_,fun q hq c hc=>?_⟩
 ·by_cases e1:q=i
  ·subst e1
   simp [hil] at hq
   obtain ⟨rfl,rfl⟩:=hq
   simp only [if_true]
   exact fun c hc=>hc
  ·rw [FU (Ne.symm e1)] at hq
   by_cases e2:q=b
   ·subst e2
    simp [hbl,gh,ir] at hq
    obtain ⟨rfl,rfl⟩:=hq
    simp only [e1,if_true,if_false]
    refine ⟨(),rfl,fun k c=>match k with|0=>fp i c|k+1=>fe k c,fun k g r hk=>?_,fun j k c hj hk=>?_,fun k hk c hc=>?_,fun c=>⟨fun hc=>?_,fun ⟨k,hk⟩=>?_⟩⟩
    ·cases k with
     | zero =>
      simp only [Gx,F8] at hk
      exact hp.rep i g r (by rw [hi,hk])
     | succ k=>exact he.rep k g r (by simpa using hk)
    ·cases j with
     | zero =>
      cases k with
      | zero=>rfl
      | succ k=>exact absurd (hp.dis _ _ c hj ((he.all c).2 ⟨k,hk⟩)) (fun e=>hib e)
     | succ j =>
      cases k with
      | zero=>exact absurd (hp.dis _ _ c hk ((he.all c).2 ⟨j,hj⟩)) (fun e=>hib e)
      | succ k=>rw [he.dis j k c hj hk]
    ·cases k with
     | zero=>simp at hk
     | succ k=>exact he.out k (by simpa using hk) c hc
    ·rcases hc with hc|hc
     exact ⟨0,hc⟩
     ·obtain ⟨k,hk⟩:=(he.all c).1 hc
      exact ⟨k+1,hk⟩
    ·cases k with
     | zero=>exact .inl hk
     | succ k=>exact .inr ((he.all c).2 ⟨k,hk⟩)
   ·rw [FU (Ne.symm e2)] at hq
    simp only [e1,e2,if_false]
    exact hp.rep q g r hq
 ·by_cases e1:p=i
  ·simp only [e1,if_true] at h1
  ·by_cases e2:q=i
   ·simp only [e2,if_true] at h2
   ·simp only [e1,e2,if_false] at h1 h2
    by_cases e3:p=b<;>by_cases e4:q=b<;>simp only [e3,e4,if_true,if_false] at h1 h2
    ·rw [e3,e4]
    ·rcases h1 with h1|h1
     exact absurd (hp.dis _ _ c h1 h2).symm e2
     exact absurd (hp.dis _ _ c h1 h2).symm e4
    ·rcases h2 with h2|h2
     exact absurd (hp.dis _ _ c h1 h2) e1
     exact absurd (hp.dis _ _ c h1 h2) e3
    exact hp.dis _ _ c h1 h2
 ·by_cases e1:q=i
  ·simp only [e1,if_true] at hq
  ·by_cases e2:q=b
   ·rw [FN e1,FO e2] at hq
    rcases hq with hq|hq
    exact hp.own _ c hq
    exact hp.own _ c hq
   ·rw [FN e1,FN e2] at hq
    exact hp.own _ c hq
 ·simp only [Gg] at hq
  rw [jK,jK] at hc
  exact hp.out q hq c hc
theorem a6.bag_pop {al:List Addr} {St:Nat→Prop} {w:World} {base:Nat} {F0:Nat→Prop} {H L:List (Option Nat×av)} {b:Nat} {x:Option Nat×av} (hb:H[b]?=some (gh (x::L))) (h:a6 al St w base F0 H) :
  a6 al St w base F0 (H.set b (gh L)++[x]):=by
 have ⟨fp,hp⟩:=h
 have hbl:=(FL.1 hb).1
 obtain ⟨u,_,fe,he⟩:=hp.rep b _ _ hb
 have fa:∀ k c,fe k c→fp b c:=fun k c hk=>(he.all c).2 ⟨k,hk⟩
 refine ⟨fun q c=>if q=H.length then fe 0 c else if q=b then ∃ k,fe (k+1) c else fp q c,fun q g r hq=>?_,fun p q c h1 h2=>?_,fun q c hq=>?_,fun q hq c hc=>?_⟩
 ·by_cases e1:q=H.length
  ·subst e1
   rw [FZ (by simp)] at hq
   simp at hq
   simp only [if_true]
   exact he.rep 0 g r (by rw [hq];rfl)
  ·have hql:q<H.length:=by
    have:=(FL.1 hq).1
    simp at this
    omega
   rw [FR (by simpa using hql)] at hq
   simp only [e1,if_false]
   by_cases e2:q=b
   ·subst e2
    simp [hbl,gh,ir] at hq
    obtain ⟨rfl,rfl⟩:=hq
    simp only [if_true]
    refine ⟨(),rfl,fun k c=>fe (k+1) c,fun k g r hk=>he.rep (k+1) g r (by simpa using hk),fun j k c hj hk=>by have:=he.dis _ _ c hj hk;omega,fun k hk c hc=>he.out (k+1) (by simp;omega) c hc,fun c=>Iff.rfl⟩
   ·rw [FU (Ne.symm e2)] at hq
    simp only [e2,if_false]
    exact hp.rep q g r hq
 ·by_cases e1:p=H.length<;>by_cases e2:q=H.length
  ·rw [e1,e2]
  ·rw [FO e1] at h1
   rw [FN e2] at h2
   by_cases e3:q=b
   ·rw [FO e3] at h2
    have ⟨k,hk⟩:=h2
    have:=he.dis _ _ c h1 hk
    omega
   ·rw [FN e3] at h2
    exact absurd (hp.dis _ _ c (fa _ _ h1) h2).symm e3
  ·rw [FN e1] at h1
   rw [FO e2] at h2
   by_cases e3:p=b
   ·rw [FO e3] at h1
    have ⟨k,hk⟩:=h1
    have:=he.dis _ _ c h2 hk
    omega
   ·rw [FN e3] at h1
    exact absurd (hp.dis _ _ c (fa _ _ h2) h1).symm e3
  ·rw [FN e1] at h1
   rw [FN e2] at h2
   by_cases e3:p=b<;>by_cases e4:q=b<;>simp only [e3,e4,if_true,if_false] at h1 h2
   ·rw [e3,e4]
   ·have ⟨k,hk⟩:=h1
    exact absurd (hp.dis _ _ c (fa _ _ hk) h2).symm e4
   ·have ⟨k,hk⟩:=h2
    exact absurd (hp.dis _ _ c (fa _ _ hk) h1).symm e3
   exact hp.dis _ _ c h1 h2
 ·by_cases e1:q=H.length
  ·rw [FO e1] at hq
   exact hp.own b c (fa _ _ hq)
  ·rw [FN e1] at hq
   by_cases e2:q=b
   ·rw [FO e2] at hq
    have ⟨k,hk⟩:=hq
    exact hp.own b c (fa _ _ hk)
   ·rw [FN e2] at hq
    exact hp.own q c hq
 ·simp at hq
  rw [jK,jK] at hc
  exact hp.out q O c hc
theorem a6.bag_new {al:List Addr} {St:Nat→Prop} {w:World} {base:Nat} {F0:Nat→Prop} {H:List (Option Nat×av)} (h:a6 al St w base F0 H):a6 al St w base F0 (H++[gh []]):=by
 have ⟨fp,hp⟩:=h
 refine ⟨fp,fun q g r hq=>?_,hp.dis,hp.own,fun q hq c hc=>hp.out q (by simp at hq;omega) c hc⟩
 by_cases e1:q<H.length
 ·rw [FR e1] at hq
  exact hp.rep q g r hq
 ·rw [FZ O] at hq
  have hno:∀ c,¬ fp q c:=fun c hc=>hp.out q O c hc
  have e2:q-H.length=0:=by
   have:=(FL.1 hq).1
   simp at this
   omega
  rw [e2] at hq
  simp [gh,ir] at hq
  obtain ⟨rfl,rfl⟩:=hq
  exact ⟨(),rfl,fun _ _=>False,fun k g r hk=>by simp at hk,fun _ _ _ h=>h.elim,fun _ _ _ h=>h,fun c=>⟨fun hc=>(hno c hc).elim,fun ⟨_,hk⟩=>hk.elim⟩⟩
section
variable {G:Gh} {env:List (Nat×CV)} {b0:Nat→CV} {H L:List (Option Nat×av)} {x:Option Nat×av}
theorem bag_push (b i:Nat) (hb:H[b]?=some (gh L)) (hi:H[i]?=some x) (hib:Nat.beq i b=false):aZ G ⟨env,b0,H⟩ ⟨env,b0,(H.set b (gh (x::L))).set i (none,.dead)⟩:=aZ.hrel fun h=>h.bag_push hb hi (Nat.ne_of_beq_eq_false hib)
theorem bag_pop (b:Nat) (hb:H[b]?=some (gh (x::L))):aZ G ⟨env,b0,H⟩ ⟨env,b0,H.set b (gh L)++[x]⟩:=aZ.hrel fun h=>h.bag_pop hb
theorem bag_new:aZ G ⟨env,b0,H⟩ ⟨env,b0,H++[gh []]⟩:=aZ.hrel fun h=>h.bag_new
end
theorem a6.osRs {al:List Addr} {St:Nat→Prop} {w:World} {base:Nat} {F0:Nat→Prop} {H:List (Option Nat×av)} {i q off n m N:Nat} {g:Option Nat} {F:Nat→CV} {f:Nat→Nat→CV} {v:Value} (h:a6 al St w base F0 H) (hH:H[i]?=some (g,.frz N F)) (hN:off+n * m≤N) (hf:∀ a b,a<n→b<m→J (F (off+(a * m+b))) (f a b)) (he:ai al St w (.os q g off n m) v):ai al St w (.rs m n f) v:=by
 cases g with
 | none =>
  have ⟨h1,h2⟩:=he
  subst h1
  exact ⟨_,0,h2,FQ _,by decide,fun _=>rfl,fun _ h=>by cases h⟩
 | some g =>
  have ⟨cap,h1,h2,h3,_⟩:=he
  have ⟨fp,hp⟩:=h
  obtain ⟨_,hg,cur,t,z,hh,hle,hc⟩:=hp.rep i (some g) _ hH
  refine ⟨_,cap,h1,h2,h3,(fun h=>by cases h),fun ad ha _=>?_⟩
  cases ha
  refine ⟨rfl,hg,fun p q hp' hq=>?_⟩
  have hb:p * m+q<n * m:=by
   have:p * m+m≤n * m:=by rw [← H3];exact Gr _ hp'
   omega
  have hlt:off+(p * m+q)<cur.size:=by omega
  refine ⟨cur.getD (off+(p * m+q)) undef,?_,hf p q hp' hq _ _ _ _ (hc _ O)⟩
  show w.cell? ⟨g,off+(p * m+q),Option.none⟩=_
  rw [cell_of_row w g _ cur t z hh];simp [hlt]
theorem a6.thawC {al:List Addr} {St:Nat→Prop} {w:World} {base:Nat} {F0:Nat→Prop} {H:List (Option Nat×av)} {b j0 i q off n m M N:Nat} {g gb:Option Nat} {B B' F:Nat→CV} {f:Nat→Nat→CV} (hb:H[b]?=some (gb,.blk M B)) (hH:H[i]?=some (g,.frz N F)) (hB:J (B j0) (.os q g off n m)) (hB0:J (.rs m n f) (B' j0)) (hB':∀ j,j<M→j≠j0→J (B j) (B' j)) (hN:off+n * m≤N) (hf:∀ a b,a<n→b<m→J (F (off+(a * m+b))) (f a b)) (h:a6 al St w base F0 H) :
  a6 al St w base F0 (H.set b (gb,.blk M B')):=by
 have hk:=fun {v}=>h.osRs (v:=v) hH hN hf (q:=q)
 have ⟨fp,hp⟩:=h
 have hlt:=(FL.1 hb).1
 refine ⟨fp,fun j q r hj=>?_,hp.dis,hp.own,fun j hj=>hp.out j (by simpa using hj)⟩
 by_cases e:j=b
 ·subst e
  simp [hlt] at hj
  obtain ⟨rfl,rfl⟩:=hj
  have:=hp.rep j gb _ hb
  cases gb with
  | none=>exact this
  | some gb =>
   have ⟨h0,cur,t,h1,h2,h3⟩:=this
   refine ⟨h0,cur,t,h1,h2,fun a ha=>?_⟩
   by_cases ea:a=j0
   ·subst ea
    exact hB0 _ _ _ _ (hk (hB _ _ _ _ (h3 a ha)))
   exact hB' a ha ea _ _ _ _ (h3 a ha)
 ·rw [FU (Ne.symm e)] at hj
  exact hp.rep j q r hj
section
variable {G:Gh} {env:List (Nat×CV)} {b0:Nat→CV} {H:List (Option Nat×av)}
theorem thawC (b j0 i:Nat) (B':Nat→CV) (f:Nat→Nat→CV) {q off n m M N:Nat} {g gb:Option Nat} {B F:Nat→CV} (hb:H[b]?=some (gb,.blk M B)) (hH:H[i]?=some (g,.frz N F)) (hB:J (B j0) (.os q g off n m)) (hB0:J (.rs m n f) (B' j0)) (hB':∀ j,j<M→j≠j0→J (B j) (B' j)) (hN:off+n * m≤N) (hf:∀ a b,a<n→b<m→J (F (off+(a * m+b))) (f a b)) :
  aZ G ⟨env,b0,H⟩ ⟨env,b0,H.set b (gb,.blk M B')⟩:=aZ.hrel fun h=>h.thawC hb hH hB hB0 hB' hN hf
theorem C9 (d i:Nat) (f:Nat→Nat→CV) (c0:CV) {q off n m N:Nat} {g:Option Nat} {A F:Nat→CV} (hl:look env b0 d=.agg 2 A) (hH:H[i]?=some (g,.frz N F)) (h0:J (A 0) c0) (h1:J (A 1) (.os q g off n m)) (hN:off+n * m≤N) (hf:∀ a b,a<n→b<m→J (F (off+(a * m+b))) (f a b)) :
  aZ G ⟨env,b0,H⟩ ⟨(d,.agg 2 (fl [c0,.rs m n f]))::env,b0,H⟩:=fun St a w hr=>by
 refine ⟨St,fun _ h=>h,hr.df,hr.sz,fun e=>?_,hr.un,hr.s1,hr.s2,hr.s3,hr.hp,hr.sn,hr.sg⟩
 by_cases hde:d=e
 ·subst hde
  rw [bw]
  have he:=hr.env d
  rw [hl] at he
  have ⟨cs,k1,k2,k3⟩:=he
  refine ⟨cs,k1,k2,fun j hj=>?_⟩
  rcases j with _|_|j
  exact h0 _ _ _ _ (k3 0 O)
  exact hr.hp.osRs hH hN hf (h1 _ _ _ _ (k3 1 O))
  omega
 ·rw [aQ _ _ _ hde];exact hr.env e
end
theorem xz {P:Program} {G:Gh} {fn:Func} {Q:CV→List (Option Nat×av)→Prop} {e:Exit} {env:List (Nat×CV)} {b0:Nat→CV} {H H':List (Option Nat×av)} (h:∀ {al St w base F0},a6 al St w base F0 H→a6 al St w base F0 H') (hb:fB P G fn Q e ⟨env,b0,H'⟩):fB P G fn Q e ⟨env,b0,H⟩:=by
 have cv:∀ {St a w},ab G St ⟨env,b0,H⟩ a w→ab G St ⟨env,b0,H'⟩ a w:=fun hr=>⟨hr.df,hr.sz,hr.env,hr.un,hr.s1,hr.s2,hr.s3,h hr.hp,hr.sn,hr.sg⟩
 cases e with
 | normal =>
  have ⟨r,K,k1,k2,k3⟩:=hb
  exact ⟨r,K,fun St a w hr=>k1 St a w (cv hr),k2,fun St a w hr=>k3 St a w (cv hr)⟩
 | ret =>
  have ⟨r,K,k1,k2,k3⟩:=hb
  exact ⟨r,K,fun St a w hr=>k1 St a w (cv hr),k2,fun St a w hr=>k3 St a w (cv hr)⟩
 | _=>exact hb
section
variable {P:Program} {G:Gh} {o:Oper} {env:List (Nat×CV)} {b0:Nat→CV} {H:List (Option Nat×av)} {K:AS→Prop}
theorem wE {f:FuncId} {v:Operand} {n:Nat} {fv:Nat→CV} {xs:Array Operand} {ats:Array TypeId} {args:List CV} {Q:CV→List (Option Nat×av)→Prop} {i:Nat} {x0:Option Nat×av} (ho:o.op=.call ⟨.value v,xs,ats⟩) (hv:(⟨env,b0,H⟩:AS).eval v=.fn f n fv) (hc:aU P f=true) (hi:H[i]?=some x0) (hA:AC G.gs P f [x0] args Q)
  (he:iX (xs.toList.map (⟨env,b0,H⟩:AS).eval++(List.range n).map fv) args) (hd:aJ G o=true)
  (hK:∀ r H',Q r H'→∃ x,H'=[x]∧K ((⟨env,b0,H⟩:AS).with o.dst r (H.set i x))):kE P G o ⟨env,b0,H⟩ K:=fun St a w hr Q'=>by
 have ⟨cs,hcs,hn,hf⟩:=c7 hr hv
 unfold Oper.wp
 rw [me ho hc a hcs]
 have hl:=qu he
 simp at hl
 have ⟨fp,hp⟩:=hr.hp
 have hlt:i<H.length:=(FL.1 hi).1
 have ⟨g0,r0⟩:=x0
 have hent:tj G.gs G.al St (fp i) [(g0,r0)] w:=by
  refine ⟨hr.s3,hr.sn,hr.sg,⟨fun j b=>j=0∧fp i b,fun j g r hj=>?_,fun j l b hj hl=>by omega,fun j b hj=>⟨(hp.own i b hj.2).1,(hp.own i b hj.2).2.1,.inr hj.2⟩,fun j hj b hb=>by simp at hj;omega⟩,fun b hb=>(hp.own i b hb).2.1⟩
  match j,hj with
  | 0,hj =>
   simp at hj
   obtain ⟨rfl,rfl⟩:=hj
   have e:(fun b=>(0:Nat)=0∧fp i b)=fp i:=funext fun b=>by simp
   show r0.rep G.al St w (fun b=>(0:Nat)=0∧fp i b) g0
   rw [e]
   exact hp.rep i g0 r0 hi
  | j+1,hj=>simp at hj
 refine (hA G.al w St _ _ hent (by simp [hn,hl]) (fun i=>?_)).mono ?_
 ·by_cases hi:i<args.length
  ·refine qv he i _ _ _ _ ?_
   rw [nJ]
   by_cases h1:i<xs.size
   ·rw [FO (by simpa using h1),bz]
    simp [List.getD,h1,Gp]
    exact hr.eval _
   ·rw [FN (by simpa using h1),bz]
    have h2:i-xs.size<n:=by omega
    have:=hf _ h2
    simp [List.getD,h2,Hc (show (xs.map a.eval).size≤i by simp;omega)] at this ⊢
    exact this
  ·rw [jn args i O];trivial
 rintro e w' ⟨v,r,H',St',rfl,hq,hv,hu,h3,h4,h5,h6⟩
 obtain ⟨x,rfl,hk⟩:=hK r H' hq
 refine ⟨fun b hb=>hu.block b (hr.s3 b hb) fun hf=>(hp.own i b hf).2.1 hb,St',h3,_,hk,?_⟩
 have h7:=(hr.afterH hp hlt hu h3 h4 h5 h6).put (dst:=o.dst) (v:=r) (x:=v) (bA hd) hv
 cases ho:o.dst with
 | none=>rw [ho] at h7;exact h7
 | some d=>rw [ho] at h7;exact h7
end
def iN (l:ByteArray) (pos:Nat):OP where
 p al St w g F:=(∀ b,F b↔b=g)∧w.heap[g]?=some (.stringIter l pos)
 st:=fun he hs hF ⟨h1,h2⟩=>⟨h1,(hF _ ((h1 _).2 rfl)).trans h2⟩
section
variable {P:Program} {G:Gh} {ops:Array Oper} {o:Oper} {s:AS} {r:List Oper} {K:AS→Prop} {t u:TypeId} {x y:Operand} {env:List (Nat×CV)} {b0:Nat→CV} {H:List (Option Nat×av)}
theorem pn {w w':World} (h:Below w.heap.size w w'):d6 (fun _=>False) w w':=(d6.refl _ w).then h
theorem ab.freshObj {St:Nat→Prop} {a:Act} {w w':World} {g:Nat} {p:OP} (h:ab G St s a w) (hb:Below w.heap.size w w') (h1:w.heap.size≤g) (h2:g<w'.heap.size) (hp:p.p G.al St w' g (fun b=>b=g)):ab G St ⟨s.env,s.b,s.H++[(some g,.obj p)]⟩ a w':=by
 refine h.after (pn hb) (fun _ h=>h) (fun b h=>.inl h) (fun b hs=>Ge (h.s3 b hs) hb.size) ⟨fun i b=>i=0∧b=g,fun i q r hi=>?_,fun i j b hi hj=>by omega,fun i b hi=>?_,fun i hi b hb=>by simp at hi;omega⟩
 ·match i,hi with
  | 0,hi =>
   simp at hi
   obtain ⟨rfl,rfl⟩:=hi
   have e:(fun b=>(0:Nat)=0∧b=g)=fun b=>b=g:=funext fun b=>by simp
   show p.p G.al St w' g (fun b=>(0:Nat)=0∧b=g)
   rw [e]
   exact hp
  | i+1,hi=>simp at hi
 ·obtain ⟨_,rfl⟩:=hi
  exact ⟨h2,fun hs=>by have:=h.s3 _ hs;omega,.inl h1⟩
theorem ab.turnObj {St:Nat→Prop} {a:Act} {w w':World} {i g:Nat} {p p':OP} (h:ab G St s a w) (hH:s.H[i]?=some (some g,.obj p)) (hF:∀ F,p.p G.al St w g F→(∀ b,F b↔b=g)) (hno:∀ cur t z,w.heap[g]?≠some (.cells cur t z))
  (ho:w'.os=w.os) (ht:w'.tape=w.tape) (hout:w'.output=w.output) (hsz:w'.heap.size=w.heap.size) (hold:∀ b,b≠g→w'.heap[b]?=w.heap[b]?) (hp':p'.p G.al St w' g (fun b=>b=g)):ab G St ⟨s.env,s.b,s.H.set i (some g,.obj p')⟩ a w':=by
 have ⟨fp,hp⟩:=h.hp
 have hlt:i<s.H.length:=(FL.1 hH).1
 have hrep:p.p G.al St w g (fp i):=hp.rep i (some g) _ hH
 have hfi:=hF _ hrep
 have hg:fp i g:=(hfi g).2 rfl
 have ⟨hg1,hg2,hg3⟩:=hp.own i g hg
 have he:k9 St w w':=⟨fun b cu ct cz hb hcu=>(hold b (fun e=>hg2 (e ▸ hb))).trans hcu,fun b cu t z hb=>⟨cu,z,(hold b (fun e=>hno cu t z (e ▸ hb))).trans hb,rfl⟩⟩
 refine ⟨h.df.keep (fun _ h=>h) (fun b hb=>hold b (fun e=>hg2 (e ▸ hb))),h.sz,fun d=>ai.evo he (fun _ x=>x) _ _ (h.env d),⟨ho.trans h.un.os,ht.trans h.un.tape,hout.trans h.un.output,by rw [hsz];exact h.un.size,fun k hk hFk=>?_,fun b cu t z hb=>?_⟩,h.s1,h.s2,fun b hb=>by rw [hsz];exact h.s3 b hb,?_,?_,h.sg⟩
 ·refine (hold k (fun e=>?_)).trans (h.un.block k hk hFk)
  subst e
  rcases hg3 with h1|h1
  omega
  exact hFk h1
 ·have ⟨cur',z',h1,h2⟩:=h.un.sh b cu t z hb
  have ⟨cur2,z2,h3,h4⟩:=he.sh b cur' t z' h1
  exact ⟨cur2,z2,h3,h4.trans h2⟩
 ·refine ⟨fp,fun j q r hj=>?_,hp.dis,fun j b hb=>by rw [hsz];exact hp.own j b hb,fun j hj=>hp.out j (by simpa using hj)⟩
  by_cases e:j=i
  ·subst e
   simp [hlt] at hj
   obtain ⟨rfl,rfl⟩:=hj
   have e2:fp j=fun b=>b=g:=funext fun b=>propext (hfi b)
   show p'.p G.al St w' g (fp j)
   rw [e2]
   exact hp'
  ·rw [FU (Ne.symm e)] at hj
   exact av.rep_evo he (fun _ x=>x) (fun b hFb=>hold b (fun e2=>e (hp.dis j i b hFb (e2 ▸ hg)))) (hp.rep j q r hj)
 exact cd.keep h.sn (fun q hq=>hold q (fun e=>hg2 (e ▸ h.sg.1 q hq))) (fun q hq=>hold _ (fun e=>hg2 (e ▸ h.sg.2 q hq)))
theorem zR {l:ByteArray} {d:Nat} (ho:o.op=.range t x) (I:(⟨env,b0,H⟩:AS).eval x=.c (.string l)) (h1:P.underlying t=some .string) (hd:o.dst=some d) (hN:Nat.blt d G.N=true)
  (hK:∀ g,K ⟨(d,.op H.length (some g) 0)::env,b0,H++[(some g,.obj (iN l 0))]⟩):eG P G o ⟨env,b0,H⟩ K:=fun St a w hr Q=>by
 have hrun:(execOp a.eval o).run P w=.ok (.value (.pointer (some ⟨w.heap.size,0,none⟩))) (w.iter l 0):=by
  simp only [execOp,ho,iR hr I]
  exact iz (run_range_string w t l h1)
 unfold Oper.wp
 rw [hrun]
 have hb:Below w.heap.size w (w.iter l 0):=bk w _
 refine ⟨hb,St,fun _ h=>h,_,hK w.heap.size,?_⟩
 have h2:=hr.freshObj (g:=w.heap.size) (p:=iN l 0) hb (FQ _) (by show _<(w.heap.push _).size;simp) ⟨fun b=>Iff.rfl,World.iter_heap w l 0⟩
 have:=h2.put (dst:=o.dst) (v:=.op H.length (some w.heap.size) 0) (x:=.pointer (some ⟨w.heap.size,0,none⟩)) (by intro d' hd';rw [hd] at hd';cases hd';exact FS hN) ⟨_,rfl,rfl⟩
 rw [hd] at this ⊢
 exact this
theorem ow {l:ByteArray} {pos g:Nat} {w:World} (ty:TypeId) (hg:w.heap[g]?=some (.stringIter l pos)) (h:pos<l.size) :
  (Instr.next (.pointer (some ⟨g,0,none⟩)) true ty).run P w=.ok (.tuple #[.bool true,.int .i64 pos,.int .i32 (Utf8.decode l pos).1]) { w with heap:=w.heap.setIfInBounds g (.stringIter l (pos+(Utf8.decode l pos).2)) }:=by
 simp [Instr.next,getObj,setObj,Sem.run,hg,h,goInt]
theorem mG {l:ByteArray} {pos g:Nat} {w:World} (ty:TypeId) (hg:w.heap[g]?=some (.stringIter l pos)) (h:¬ pos<l.size) :
  (Instr.next (.pointer (some ⟨g,0,none⟩)) true ty).run P w=.ok (.tuple #[.bool false]) w:=by
 simp [Instr.next,getObj,Sem.run,hg,h]
theorem B6 {l:ByteArray} {pos i g d:Nat} (ho:o.op=.next x true) (I:(⟨env,b0,H⟩:AS).eval x=.op i (some g) 0) (hH:H[i]?=some (some g,.obj (iN l pos))) (hd:o.dst=some d) (hN:Nat.blt d G.N=true)
  (h1:pos<l.size→K ⟨(d,.tup 3 (fl [.c (.bool true),.c (.int .i64 (pos:Nat)),.c (.int .i32 ((Utf8.decode l pos).1:Nat))]))::env,b0,H.set i (some g,.obj (iN l (pos+(Utf8.decode l pos).2)))⟩)
  (h2:¬ pos<l.size→K ⟨(d,.tup 1 (fl [.c (.bool false)]))::env,b0,H⟩):kE P G o ⟨env,b0,H⟩ K:=fun St a w hr Q=>by
 have ⟨b,hb,e0⟩:=c7 hr I
 cases hb
 have ⟨fp,hp⟩:=id hr.hp
 obtain ⟨hF,hg⟩:=hp.rep i _ _ hH
 have dlt:∀ d',o.dst=some d'→d'<G.N:=by intro d' hd';rw [hd] at hd';cases hd';exact FS hN
 by_cases h:pos<l.size
 ·have hrun:(execOp a.eval o).run P w=.ok (.value (.tuple #[.bool true,.int .i64 pos,.int .i32 (Utf8.decode l pos).1])) { w with heap:=w.heap.setIfInBounds g (.stringIter l (pos+(Utf8.decode l pos).2)) }:=by
   simp only [execOp,ho,e0]
   exact iz (ow _ hg h)
  unfold Oper.wp
  rw [hrun]
  refine ⟨fun b hb=>?_,St,fun _ h=>h,_,h1 h,?_⟩
  ·have hne:b≠g:=fun e=>(hp.own i g ((hF g).2 rfl)).2.1 (e ▸ hb)
   simp [Gd (Ne.symm hne)]
  have hlt:g<w.heap.size:=(FY.1 hg).1
  have h3:=hr.turnObj (p:=iN l pos) (p':=iN l (pos+(Utf8.decode l pos).2)) (w':={ w with heap:=w.heap.setIfInBounds g (.stringIter l (pos+(Utf8.decode l pos).2)) }) hH (fun F h=>h.1) (fun cur t z he=>by rw [hg] at he;cases he) rfl rfl rfl (by simp) (fun b hb=>by simp [Gd (Ne.symm hb)]) ⟨fun b=>Iff.rfl,by simp [hlt]⟩
  have:=h3.put (dst:=o.dst) (v:=.tup 3 (fl [.c (.bool true),.c (.int .i64 (pos:Nat)),.c (.int .i32 ((Utf8.decode l pos).1:Nat))])) (x:=.tuple #[.bool true,.int .i64 pos,.int .i32 (Utf8.decode l pos).1]) dlt ⟨_,rfl,rfl,fun j hj=>match j,hj with|0,_=>rfl|1,_=>rfl|2,_=>rfl⟩
  rw [hd] at this ⊢
  exact this
 ·have hrun:(execOp a.eval o).run P w=.ok (.value (.tuple #[.bool false])) w:=by
   simp only [execOp,ho,e0]
   exact iz (mG _ hg h)
  unfold Oper.wp
  rw [hrun]
  refine ⟨cE.refl _ _,St,fun _ h=>h,_,h2 h,?_⟩
  have:=hr.put (dst:=o.dst) (v:=.tup 1 (fl [.c (.bool false)])) (x:=.tuple #[.bool false]) dlt ⟨_,rfl,rfl,fun j hj=>match j,hj with|0,_=>rfl⟩
  rw [hd] at this ⊢
  exact this
end
def bi (l:V):CV:=.c (.string ⟨l.toArray⟩)
theorem iW {a b:V}:((⟨a.toArray⟩:ByteArray)=⟨b.toArray⟩)↔a=b:=by
 constructor
 ·intro h
  have:=F7 (fun x:ByteArray=>x.data.toList) h
  simpa using this
 ·rintro rfl;rfl
theorem Ah (s:ByteArray):∃ l:V,s=⟨l.toArray⟩:=⟨s.data.toList,by cases s;simp⟩
theorem im (a:V):(⟨a.toArray⟩:ByteArray).toList=a:=by rw [Go.ByteArray.toList_eq]
section
variable {P:Program} {G:Gh} {ops:Array Oper} {o:Oper} {s:AS} {r:List Oper} {K:AS→Prop} {t u:TypeId} {x y:Operand} {env:List (Nat×CV)} {b0:Nat→CV} {H:List (Option Nat×av)} {k:IntKind} {a b:V}
theorem BN (ho:o.op=.binOp .eql t x y u) (I:s.eval x=bi a) (hy:s.eval y=bi b):aN P G o s (.c (.bool (decide (a=b)))):=by
 have:=BM (P:=P) (G:=G) ho I hy
 rwa [show decide ((⟨a.toArray⟩:ByteArray)=⟨b.toArray⟩)=decide (a=b) from decide_eq_decide.2 iW] at this
theorem BD (ho:o.op=.binOp .neq t x y u) (I:s.eval x=bi a) (hy:s.eval y=bi b):aN P G o s (.c (.bool (decide (a≠b)))):=by
 have:=BC (P:=P) (G:=G) ho I hy
 rwa [show decide ((⟨a.toArray⟩:ByteArray)≠⟨b.toArray⟩)=decide (a≠b) from decide_eq_decide.2 (not_congr iW)] at this
theorem BJ (ho:o.op=.binOp .lss t x y u) (I:s.eval x=bi a) (hy:s.eval y=bi b):aN P G o s (.c (.bool (Op.bytesLess a b))):=by
 have:=BI (P:=P) (G:=G) ho I hy
 rwa [im,im] at this
theorem BL (ho:o.op=.binOp .gtr t x y u) (I:s.eval x=bi a) (hy:s.eval y=bi b):aN P G o s (.c (.bool (!(Op.bytesLess a b || a == b)))):=by
 have:=BK (P:=P) (G:=G) ho I hy
 rwa [im,im] at this
theorem ub {i:Nat} {z:Int} (ho:o.op=.index t x y) (I:s.eval x=bi a) (hy:s.eval y=.c (.int k z)) (h1:P.underlying t=some .string) (hz:z=(i:Int)) (hi:i<a.length):aN P G o s (bX a i) :=
 ua (l:=⟨a.toArray⟩) ho I hy h1 hz hi
theorem yV (ho:o.op=.call ⟨.builtin .len,#[x],#[t]⟩) (I:s.eval x=bi a) (h1:P.underlying t=some .string):aN P G o s (.c (.int .i64 (a.length:Nat))):=yQ ho I h1
theorem ug {e:TypeId} (ho:o.op=.convert t u x) (I:s.eval x=dL a) (h1:P.underlying t=some (.slice e)) (h2:P.underlying e=some (.int .u8)) (h3:P.underlying u=some .string):aN P G o s (bi a):=uf ho I h1 h2 h3
theorem xE {e:TypeId} {d:Nat} (ho:o.op=.convert t u x) (I:(⟨env,b0,H⟩:AS).eval x=bi a) (h1:P.underlying t=some .string) (h2:P.underlying u=some (.slice e)) (h3:P.underlying e=some (.int .u8)) (hl:a.length≤9223372036854775807) (hd:o.dst=some d) (hN:Nat.blt d G.N=true)
  (hK:K ⟨(d,dL a)::env,b0,H⟩):eG P G o ⟨env,b0,H⟩ K:=by
 refine xD ho I h1 h2 h3 hl hd hN ?_
 simpa using hK
end
theorem J.errN {m n:Nat} (h:n=m):J (.err m) (.err n):=by subst h;exact cZ
section
variable {P:Program} {G:Gh} {ops:Array Oper} {o:Oper} {s:AS} {r:List Oper} {K:AS→Prop} {t u:TypeId} {x y:Operand} {env:List (Nat×CV)} {b0:Nat→CV} {H:List (Option Nat×av)}
theorem rH {ats:Array TypeId} (ho:o.op=.call ⟨.builtin .clear,#[x],ats⟩) {a:Act} {v:Value} {w w':World} (h:(Builtin.clear_ ats o.type #[a.eval x]).run P w=.ok v w'):(execOp a.eval o).run P w=.ok (.value v) w':=by
 simp [execOp,ho,resolve,invoke,builtin,h]
end
structure FD where
 N:Nat
 env:List (Nat×CV)
 b:Nat→CV
 ps:Array Tmp
 assign:Code
 body:Code
section
variable {P:Program} {G:Gh} {ops:Array Oper} {o:Oper} {s:AS} {K:AS→Prop} {env:List (Nat×CV)} {b0:Nat→CV} {H:List (Option Nat×av)} {R:Exit→AS→Prop}
end
section
variable {P:Program} {G:Gh} {s:AS} {R:Exit→AS→Prop}
end
def aT {α:Type} (p:α→Bool):List α→Int
 | []=>-1
 | x::l=>if p x=true then 0 else if aT p l<0 then -1 else aT p l+1
theorem fx {α:Type} (p:α→Bool):∀ l:List α,-1≤aT p l∧aT p l<l.length
 | []=>by simp [aT]
 | x::l=>by
  have:=fx p l
  rw [aT]
  rw [List.length_cons]
  split
  omega
  split<;>omega
theorem iQ {α:Type} {p:α→Bool}:∀ {l:List α},aT p l<0↔l.all (fun x=>!p x)=true
 | []=>by simp [aT]
 | x::l=>by
  have ih:=@iQ α p l
  have:=fx p l
  rw [aT,Ha]
  by_cases h:p x=true
  ·simp [h]
  ·rw [FN h]
   have I:(!p x)=true:=by simpa using h
   rw [I,GJ,← ih]
   split<;>omega
theorem gO {α:Type} {p:α→Bool} {l:List α} (h:∀ i (hi:i<l.length),p l[i]=false):aT p l=-1:=by
 have h1:aT p l<0:=iQ.2 (F5.2 fun x I=>by
  obtain ⟨i,hi,rfl⟩:=Gw I
  simp [h i hi])
 have:=fx p l
 omega
theorem ib {α:Type} {p:α→Bool}:∀ {l:List α} (i:Nat) (hi:i<l.length),p l[i]=true→(∀ j (hj:j<i),p (l[j]'O)=false)→aT p l=(i:Nat)
 | [],i,hi,_,_=>by simp at hi
 | x::l,0,hi,h,_=>by simp at h;simp [aT,h]
 | x::l,i+1,hi,h,hb=>by
  have h0:p x=false:=by simpa using hb 0 O
  have ih:=@ib α p l i (by simpa using hi) (by simpa using h) (fun j hj=>by simpa using hb (j+1) O)
  rw [aT,FN (by simp [h0]),ih,jK]
  omega
theorem nM:∀ l:List CV,iX l l
 | []=>.nil
 | c::l=>.cons (J.refl c) (nM l)
theorem zO {c d:CV} (h:J c d) (l:List CV):iX ([c]++l) (d::l):=.cons h (nM l)
theorem J.fn0 {g:FuncId} {f:Nat→CV}:J (.c (.func (.func g) #[] #[])) (.fn g 0 f):=fun al St w v h=>⟨#[],h,rfl,fun i hi=>absurd hi (F3 i)⟩
theorem rF {α:Type} (p:α→Bool) (l:List α):decide (0≤aT p l)=l.any p:=by
 have:=@iQ _ p l
 by_cases h:aT p l<0
 ·have h2:=this.1 h
  rw [Gn O]
  symm
  rw [HP]
  intro x I h3
  have:=F5.1 h2 x I
  rw [h3] at this
  exact Bool.noConfusion this
 ·have h2:=mt this.2 h
  rw [GX O]
  symm
  rw [GN]
  simpa using h2
theorem J.rp {n:Nat} {f g:Nat→CV} (h:∀ j,j<n→J (f j) (g j)):J (.rp n f) (.rp n g):=fun al St w v ⟨b,o,h1,h2,h3⟩ =>
 ⟨b,o,h1,h2,fun j hj=>by
  have ⟨x,I,hr⟩:=h3 j hj
  exact ⟨x,I,h j hj al St w x hr⟩⟩
theorem J.fn1 {k:FuncId} {f g:Nat→CV} (h:J (f 0) (g 0)):J (.fn k 1 f) (.fn k 1 g):=fun al St w v ⟨cs,h1,h2,h3⟩ =>
 ⟨cs,h1,h2,fun i hi=>by
  obtain rfl:i=0:=by omega
  exact h al St w _ (h3 0 hi)⟩
theorem n9.look2 {D:List Nat} {b0 b2:Nat→CV} {env2:List (Nat×CV)} (h:n9 D b0 b2) (h3:(env2.all fun x=>D.any (Nat.beq x.1))=true):n9 D b0 (look env2 b2):=n9.nest (D2:=[]) (env2:=env2) (b2:=b2) h rfl h3
end Am
end Go.Proofs.YtnijncmifjnifaaGreatDoor
