/- What the law leans on, part 4: AmJ, AmM, AmR, SlB, P03, Err, Num, NumC -/
import Derived.Test.YtnijncmifjnifaaGreatDoorM3BundleRead
import Derived.Stop.Asserts
import Derived.RowKitTokens

set_option maxRecDepth 100000
namespace Go.Proofs.YtnijncmifjnifaaGreatDoor
set_option linter.unusedVariables false
namespace Am
open Go.RowKit
section
section
variable {P:Program} {G:Gh} {ops:Array Oper} {o:Oper} {s:AS} {r:List Oper} {K:AS→Prop} {R:Exit→AS→Prop} {Y:AS→Prop} {x y:Code} {env:List (Nat×CV)} {b0:Nat→CV} {H:List (Option Nat×Res)}

def AllB:Nat→(Nat→Prop)→Prop
 | 0,_=>True
 | n+1,p=>p 0∧AllB n fun j=>p (j+1)
theorem allB:∀ {n:Nat} {p:Nat→Prop},AllB n p→∀ j,j<n→p j
 | 0,_,_,j,hj=>absurd hj (Nat.not_lt_zero j)
 | n+1,_,h,0,_=>h.1
 | n+1,_,h,j+1,hj=>allB h.2 j (Nat.lt_of_succ_lt_succ hj)
theorem jal {n:Nat} {F H:Nat→CV} (h:AllB n fun j=>CEnt (F j) (H j):=by (repeat refine And.intro (by first|exact cZ|exact cN|exact CEnt.nilS' rfl|exact cO rfl|exact cP|exact CEnt.fn0) ?_);exact True.intro) (j:Nat) (hj:j<n):CEnt (F j) (H j):=allB h j hj
theorem jag {n m:Nat} {F H:Nat→CV} (hn:n=m:=by exact rfl) (h:AllB n fun j=>CEnt (F j) (H j):=by (repeat refine And.intro (by first|exact cZ|exact cN|exact CEnt.nilS' rfl|exact cO rfl|exact cP|exact CEnt.fn0) ?_);exact True.intro):CEnt (.agg n F) (.agg m H):=CEnt.agg hn (allB h)

def jfz:CV→Option CV
 | .top=>some .top
 | .c v=>some (.c v)
 | .err k=>some (.err k)
 | .agg n f=>some (.agg n f)
 | .tup n f=>some (.tup n f)
 | .rs k n f=>some (.rs k n f)
 | .rp n f=>some (.rp n f)
 | .os i g off n k=>some (.os i g off n k)
 | .op i g off=>some (.op i g off)
 | .fn g n f=>some (.fn g n f)
 | .pv p=>some (.pv p)
theorem jfz_eq {c v:CV} (h:jfz c=some v):c=v:=by cases c <;> (simp only [jfz,Option.some.injEq] at h;exact h)
def jlookO:List (Nat×CV)→Nat→Option CV
 | [],_=>none
 |(e,v)::r,d=>match Nat.beq e d with|true=>some v|false=>jlookO r d
theorem jlookO_some {b:Nat→CV} {d:Nat} {v:CV}:∀ {env:List (Nat×CV)},jlookO env d=some v→look env b d=v
 |(e,u)::r,h=>by
  unfold jlookO at h;unfold look
  cases hb:Nat.beq e d with
  | true=>rw [hb] at h;exact Option.some.inj h
  | false=>rw [hb] at h;exact jlookO_some h
theorem jlookO_none {b:Nat→CV} {d:Nat}:∀ {env:List (Nat×CV)},jlookO env d=none→look env b d=b d
 | [],_=>rfl
 |(e,u)::r,h=>by
  unfold jlookO at h;unfold look
  cases hb:Nat.beq e d with
  | true=>rw [hb] at h;cases h
  | false=>rw [hb] at h;exact jlookO_none h
theorem jev_t {d:Nat} {v:CV} (h:jlookO s.env d=some v):s.eval (.tmp d)=v:=jlookO_some h
theorem jev_l {D:List Nat} {e2:List (Nat×CV)} {b2:Nat→CV} {d:Nat} {v:CV} (h:jlookO env d=none) (hD:inD D d=false) (h2:jlookO e2 d=some v):(⟨env,lay D e2 b2,H⟩:AS).eval (.tmp d)=v:=by
 show look env (lay D e2 b2) d=v
 rw [jlookO_none h]
 unfold lay
 rw [hD]
 exact jlookO_some h2
theorem jev_f {x:Operand} {v:CV} (h:jfz (s.eval x)=some v):s.eval x=v:=jfz_eq h
def jflO:List CV→Nat→Option CV
 | [],_=>none
 | x::_,0=>some x
 | _::r,i+1=>jflO r i
theorem jflO_eq:∀ {l:List CV} {i:Nat} {v:CV},jflO l i=some v→fl l i=v
 | x::_,0,v,h=>Option.some.inj h
 | _::r,i+1,v,h=>jflO_eq (l:=r) h

def jslQ (P:Program) (t:TypeId) (m:Nat):Bool:=match P.underlying t with|some (.slice e)=>(match (P.info? e).map (·.size) with|some k=>Nat.beq k m|none=>false)|_=>false
theorem jslQ_ok {t:TypeId} {m:Nat} (h:jslQ P t m=true):∃ e,P.underlying t=some (.slice e)∧(P.info? e).map (·.size)=some m:=by
 unfold jslQ at h
 split at h
 ·rename_i e he
  refine ⟨e,he,?_⟩
  split at h
  ·rename_i k hk;rw [hk,Nat.eq_of_beq_eq_true h]
  ·cases h
 ·cases h
def jslT (P:Program) (t:TypeId):Bool:=match P.underlying t with|some (.slice _)=>true|_=>false
theorem jslT_ok {t:TypeId} (h:jslT P t=true):∃ e,P.underlying t=some (.slice e):=by
 unfold jslT at h
 split at h
 ·rename_i e he;exact ⟨e,he⟩
 ·cases h
def jarQ (P:Program) (t:TypeId) (n m:Nat):Bool:=match P.underlying t with|some (.array k e)=>(match (P.info? e).map (·.size) with|some q=>Nat.beq q m && Nat.beq k n|none=>false)|_=>false
def jptT (P:Program) (t:TypeId):Bool:=match P.underlying t with|some (.pointer _)=>true|_=>false
def jbyT (P:Program) (t:TypeId):Bool:=match P.underlying t with|some (.slice e)=>(match P.underlying e with|some (.int .u8)=>true|_=>false)|_=>false
theorem jbyT_ok {t:TypeId} (h:jbyT P t=true):∃ e,P.underlying t=some (.slice e)∧P.underlying e=some (.int .u8):=by
 unfold jbyT at h
 split at h
 ·rename_i e he
  split at h
  ·rename_i h2;exact ⟨e,he,h2⟩
  ·cases h
 ·cases h
def jfdQ (P:Program) (t:TypeId) (i:Nat):Option (Nat×Nat×Bool):=match P.underlying t with
 | some (.struct fs)=>(match fs[i]? with|some fd=>(match (P.info? fd.type).map (·.size),P.underlying fd.type with|some m,some _=>some (fd.offset,m,aggB P fd.type)|_,_=>none)|none=>none)
 | _=>none
theorem jfdQ_ok {t:TypeId} {i q m:Nat} {b:Bool} (h:jfdQ P t i=some (q,m,b)):∃ fs fd d,P.underlying t=some (.struct fs)∧fs[i]?=some fd∧P.underlying fd.type=some d∧aggB P fd.type=b∧(P.info? fd.type).map (·.size)=some m∧fd.offset=q:=by
 unfold jfdQ at h
 split at h
 ·rename_i fs h1
  split at h
  ·rename_i fd h2
   split at h
   ·rename_i k d h3 h4
    simp only [Option.some.injEq,Prod.mk.injEq] at h
    exact ⟨fs,fd,d,h1,h2,h4,h.2.2,by rw [h3,h.2.1],h.1⟩
   ·cases h
  ·cases h
 ·cases h
def jtyQ (P:Program) (t:TypeId) (m:Nat) (b:Bool):Bool:=match (P.info? t).map (·.size),P.underlying t with|some k,some _=>Nat.beq k m && (aggB P t == b)|_,_=>false
theorem jtyQ_ok {t:TypeId} {m:Nat} {b:Bool} (h:jtyQ P t m b=true):∃ d,P.underlying t=some d∧aggB P t=b∧(P.info? t).map (·.size)=some m:=by
 unfold jtyQ at h
 split at h
 ·rename_i k d h1 h2
  rw [Bool.and_eq_true,beq_iff_eq] at h
  exact ⟨d,h2,h.2,by rw [h1,Nat.eq_of_beq_eq_true h.1]⟩
 ·cases h
def jldQ (P:Program) (t:TypeId):Bool:=match P.underlying t with|some _=>!(aggB P t)|none=>false
theorem jldQ_ok {t:TypeId} (h:jldQ P t=true):∃ d,P.underlying t=some d∧aggB P t=false:=by
 unfold jldQ at h
 split at h
 ·rename_i d hd;exact ⟨d,hd,by simpa using h⟩
 ·cases h

def jmovO:Op→Option Operand|.move x=>some x|.assign x=>some x|_=>none
theorem jrm {x:Operand} {v:CV} (ho:jmovO o.op=some x:=by exact rfl) (hv:s.eval x=v:=by first|exact jev_t rfl|exact jev_l rfl rfl rfl|exact jev_f rfl):ARd P G o s v:=by
 unfold jmovO at ho
 split at ho
 ·rename_i z hz;exact rd_move hz (by rw [Option.some.inj ho];exact hv)
 ·rename_i z hz;exact rd_assign hz (by rw [Option.some.inj ho];exact hv)
 ·cases ho
theorem jrpT {z x' y':Operand} {v:CV} (ho:o.op=.pick z x' y':=by exact rfl) (hz:s.eval z=.c (.bool true):=by exact rfl) (hx:s.eval x'=v:=by first|exact jev_t rfl|exact jev_l rfl rfl rfl|exact jev_f rfl):ARd P G o s v:=rd_pickT ho hz hx
theorem jrpF {z x' y':Operand} {v:CV} (ho:o.op=.pick z x' y':=by exact rfl) (hz:s.eval z=.c (.bool false):=by exact rfl) (hy:s.eval y'=v:=by first|exact jev_t rfl|exact jev_l rfl rfl rfl|exact jev_f rfl):ARd P G o s v:=rd_pickF ho hz hy
theorem jrx {x:Operand} {i n:Nat} {f:Nat→CV} {v:CV} (ho:o.op=.extract x i:=by exact rfl) (hx:s.eval x=.tup n f:=by exact rfl) (hi:Nat.blt i n=true:=by exact rfl) (hv:f i=v:=by first|exact jflO_eq rfl|exact jfz_eq rfl):ARd P G o s v:=rd_extract ho hx hi hv
def jcmpI (op:BinOp) (a b:Int):Option Bool:=match op with
 | .eql=>some (decide (a=b))
 | .neq=>some (decide (a≠b))
 | .lss=>some (decide (a<b))
 | .leq=>some (decide (a≤b))
 | .gtr=>some (decide (b<a))
 | .geq=>some (decide (b≤a))
 | _=>none
theorem jrc {op:BinOp} {t u:TypeId} {x y:Operand} {k:IntKind} {a b:Int} {z:Bool} (ho:o.op=.binOp op t x y u:=by exact rfl) (hx:s.eval x=.c (.int k a):=by exact rfl) (hy:s.eval y=.c (.int k b):=by exact rfl) (hc:jcmpI op a b=some z:=by exact rfl):ARd P G o s (.c (.bool z)):=by
 cases op <;> simp only [jcmpI,Option.some.injEq,reduceCtorEq] at hc
 all_goals subst hc
 ·exact rd_eqI ho hx hy
 ·exact rd_neI ho hx hy
 ·exact rd_lt ho hx hy
 ·exact rd_le ho hx hy
 ·exact rd_gt ho hx hy
 ·exact rd_ge ho hx hy
def jarI (op:BinOp) (a b:Int):Option Int:=match op with
 | .add=>some (a+b)
 | .sub=>some (a-b)
 | .mul=>some (a * b)
 | _=>none
theorem jra {op:BinOp} {t u:TypeId} {x y:Operand} {k:IntKind} {a b z:Int} (ho:o.op=.binOp op t x y u:=by exact rfl) (hx:s.eval x=.c (.int k a):=by exact rfl) (hy:s.eval y=.c (.int k b):=by exact rfl) (hc:jarI op a b=some z:=by exact rfl) (hS:InR k z:=by (show _∧_;(first|omega|decide|(dsimp only at *;omega)))):ARd P G o s (.c (.int k z)):=by
 cases op <;> simp only [jarI,Option.some.injEq,reduceCtorEq] at hc
 all_goals subst hc
 ·exact rd_add ho hx hy (wrap_id hS)
 ·exact rd_sub ho hx hy (wrap_id hS)
 ·exact rd_mul ho hx hy (wrap_id hS)
theorem jrq {t u:TypeId} {x y:Operand} {k:IntKind} {a b:Int} (ho:o.op=.binOp .quo t x y u:=by exact rfl) (hx:s.eval x=.c (.int k a):=by exact rfl) (hy:s.eval y=.c (.int k b):=by exact rfl) (hS:0≤a:=by first|omega|decide|(dsimp only at *;omega)) (hS2:1≤b:=by first|omega|decide|(dsimp only at *;omega)) (hS3:InR k (a / b):=by (show _∧_;(first|omega|decide|(dsimp only at *;omega)))):ARd P G o s (.c (.int k (a / b))):=rd_quo ho hx hy hS hS2 (wrap_id hS3)
theorem jrr {t u:TypeId} {x y:Operand} {k:IntKind} {a b:Int} (ho:o.op=.binOp .rem t x y u:=by exact rfl) (hx:s.eval x=.c (.int k a):=by exact rfl) (hy:s.eval y=.c (.int k b):=by exact rfl) (hS:0≤a:=by first|omega|decide|(dsimp only at *;omega)) (hS2:1≤b:=by first|omega|decide|(dsimp only at *;omega)):ARd P G o s (.c (.int k (a % b))):=rd_rem ho hx hy hS hS2
def jcmpS (op:BinOp) (a b:List UInt8):Option Bool:=match op with
 | .eql=>some (decide (a=b))
 | .neq=>some (decide (a≠b))
 | .lss=>some (Op.bytesLess a b)
 | .gtr=>some (!(Op.bytesLess a b || a == b))
 | _=>none
theorem jrcs {op:BinOp} {t u:TypeId} {x y:Operand} {a b:List UInt8} {z:Bool} (ho:o.op=.binOp op t x y u:=by exact rfl) (hx:s.eval x=strC a:=by exact rfl) (hy:s.eval y=strC b:=by exact rfl) (hc:jcmpS op a b=some z:=by exact rfl):ARd P G o s (.c (.bool z)):=by
 cases op <;> simp only [jcmpS,Option.some.injEq,reduceCtorEq] at hc
 all_goals subst hc
 ·exact rd_eqL ho hx hy
 ·exact rd_neL ho hx hy
 ·exact rd_ltL ho hx hy
 ·exact rd_gtL ho hx hy
theorem jrcb {op:BinOp} {t u:TypeId} {x y:Operand} {a b z:Bool} (ho:o.op=.binOp op t x y u:=by exact rfl) (hx:s.eval x=.c (.bool a):=by exact rfl) (hy:s.eval y=.c (.bool b):=by exact rfl) (hc:(match op with|.eql=>some (a == b)|.neq=>some (!(a == b))|_=>none)=some z:=by exact rfl) (hT:P.underlying t=some .bool:=by kernel_rfl):ARd P G o s (.c (.bool z)):=by
 cases op <;> simp only [Option.some.injEq,reduceCtorEq] at hc
 all_goals subst hc
 ·exact rd_eqB ho hx hy hT
 ·exact rd_neB ho hx hy hT
def jNotV (c:CV) (z:Bool):Prop:=c=.c (.bool (!z))
theorem jnotD {p:Prop} [Decidable p] {c:CV} (h:c=.c (.bool (decide p))):jNotV c (decide ¬ p):=by unfold jNotV;rw [h];simp
theorem jnotB {p:Bool} {c:CV} (h:c=.c (.bool p)):jNotV c (!p):=by unfold jNotV;rw [h,Bool.not_not]
theorem jrn {t:TypeId} {x:Operand} {z:Bool} (ho:o.op=.unOp .not t x:=by exact rfl) (hx:jNotV (s.eval x) z:=by first|exact jnotD rfl|exact jnotB rfl):ARd P G o s (.c (.bool z)):=by
 have:=rd_not (P:=P) (G:=G) ho hx
 rwa [Bool.not_not] at this
def jlenV:CV→Option Int
 | .rs _ n _=>some ((n:Nat):Int)
 | .os _ _ _ n _=>some ((n:Nat):Int)
 | .c (.slice none 0 0)=>some 0
 | _=>none
theorem jrl {x:Operand} {t:TypeId} {z:Int} (ho:o.op=.call ⟨.builtin .len,#[x],#[t]⟩:=by exact rfl) (hx:jlenV (s.eval x)=some z:=by exact rfl) (hT:jslT P t=true:=by kernel_rfl):ARd P G o s (.c (.int .i64 z)):=by
 obtain ⟨e,he⟩:=jslT_ok hT
 unfold jlenV at hx
 split at hx
 ·rename_i h;cases hx;exact rd_lenR ho h he
 ·rename_i h;cases hx;exact rd_lenO ho h he
 ·rename_i h;cases hx;exact rd_lenN ho h he
 ·cases hx
theorem jrls {x:Operand} {t:TypeId} {a:List UInt8} (ho:o.op=.call ⟨.builtin .len,#[x],#[t]⟩:=by exact rfl) (hx:s.eval x=strC a:=by exact rfl) (hT:P.underlying t=some .string:=by kernel_rfl):ARd P G o s (.c (.int .i64 (a.length:Nat))):=rd_lenL ho hx hT
theorem jrf (q m:Nat) {t:TypeId} {x:Operand} {i n:Nat} {f:Nat→CV} {v:CV} (ho:o.op=.field t x i:=by exact rfl) (hx:s.eval x=.agg n f:=by exact rfl) (hv:f q=v:=by first|exact jflO_eq rfl|exact jfz_eq rfl) (hi:Nat.blt q n=true:=by exact rfl) (hT:jfdQ P t i=some (q,m,false):=by kernel_rfl):ARd P G o s v:=by
 obtain ⟨fs,fd,d,h1,h2,h3,h4,h5,h6⟩:=jfdQ_ok hT
 subst h6
 exact rd_field ho hx h1 h2 h3 h4 hi hv
def jfaV (q:Nat):CV→Option CV
 | .op j g off=>some (.op j g (off+q))
 | .rp n f=>some (.rp (n-q) fun j=>f (q+j))
 | _=>none
theorem jrfa (q m:Nat) (b:Bool) {t:TypeId} {x:Operand} {i:Nat} {v:CV} (ho:o.op=.fieldAddr t x i:=by exact rfl) (hx:jfaV q (s.eval x)=some v:=by exact rfl) (hm:Nat.blt 0 m=true:=by exact rfl) (hT:jfdQ P t i=some (q,m,b):=by kernel_rfl):ARd P G o s v:=by
 obtain ⟨fs,fd,d,h1,h2,h3,h4,h5,h6⟩:=jfdQ_ok hT
 subst h6
 unfold jfaV at hx
 split at hx
 ·rename_i h;cases hx;exact rd_faddrO ho h h1 h2 h5 hm
 ·rename_i h;cases hx;exact rd_faddrR ho h h1 h2 h5 hm
 ·cases hx
def jixV (i:Nat):CV→Option (CV×Nat×Nat)
 | .rs m n f=>some (.rp m (f i),n,m)
 | .os j g off n m=>some (match Nat.beq off 0,Nat.beq m 1 with|true,true=>.op j g i|_,_=>.op j g (off+i * m),n,m)
 | _=>none
theorem jri {i:Nat} {t:TypeId} {x y:Operand} {k:IntKind} {z:Int} {v:CV} {n m:Nat} (ho:o.op=.indexAddr t x y:=by exact rfl) (hy:s.eval y=.c (.int k z):=by exact rfl) (hz:z=(i:Int):=by first|exact rfl|exact natI (by omega)) (hx:jixV i (s.eval x)=some (v,n,m):=by exact rfl) (hS:i<n:=by first|omega|decide|(dsimp only at *;omega)) (hm:Nat.blt 0 m=true:=by exact rfl) (hT:jslQ P t m=true:=by kernel_rfl):ARd P G o s v:=by
 obtain ⟨e,h1,h5⟩:=jslQ_ok hT
 unfold jixV at hx
 split at hx
 ·rename_i h;cases hx;exact rd_iaddrR ho h hy h1 h5 hz hS (Nat.le_of_ble_eq_true hm)
 ·rename_i j g off n' m' h
  cases hx
  cases h6:Nat.beq off 0 with
  | false=>exact rd_iaddrO ho h hy h1 h5 hz hS
  | true =>
   cases h7:Nat.beq m 1 with
   | false=>exact rd_iaddrO ho h hy h1 h5 hz hS
   | true =>
    have e1:=Nat.eq_of_beq_eq_true h6
    have e2:=Nat.eq_of_beq_eq_true h7
    subst e1 e2
    exact rd_iaddrO1 ho h hy h1 h5 hz hS
 ·cases hx
theorem jrix {i:Nat} {t:TypeId} {x y:Operand} {k:IntKind} {z:Int} {a:List UInt8} (ho:o.op=.index t x y:=by exact rfl) (hx:s.eval x=strC a:=by exact rfl) (hy:s.eval y=.c (.int k z):=by exact rfl) (hz:z=(i:Int):=by first|exact rfl|exact natI (by omega)) (hS:i<a.length:=by first|omega|decide|(dsimp only at *;omega)) (hT:P.underlying t=some .string:=by kernel_rfl):ARd P G o s (byF a i):=rd_indexL ho hx hy hT hz hS
def jnilV:CV→Option CV
 | .op i g off=>some (.op i g off)
 | .rp n f=>some (.rp n f)
 | .fn g n f=>some (.fn g n f)
 | _=>none
theorem jrnc {x:Operand} {v:CV} (ho:o.op=.nilCheck x:=by exact rfl) (hx:jnilV (s.eval x)=some v:=by exact rfl):ARd P G o s v:=by
 unfold jnilV at hx
 split at hx
 ·rename_i h;cases hx;exact rd_nilO ho h
 ·rename_i h;cases hx;exact rd_nilR ho h
 ·rename_i h;cases hx;exact rd_nilF ho h
 ·cases hx
theorem jrmf {g:FuncId} {cs:Array Operand} {n:Nat} (ho:o.op=.makeFunc (.func g) #[] cs:=by exact rfl) (hn:cs.size=n:=by exact rfl):ARd P G o s (.fn g n (fl (cs.toList.map s.eval))):=rd_makeFunc ho hn
theorem jrv8 (k':IntKind) {c:UInt8} {t u:TypeId} {x:Operand} (ho:o.op=.convert t u x:=by exact rfl) (hx:s.eval x=.c (.int .u8 ((c.toNat:Nat):Int)):=by exact rfl) (h1:P.underlying t=some (.int .u8):=by kernel_rfl) (h2:P.underlying u=some (.int k'):=by kernel_rfl) (hk:wide8 k'=true:=by exact rfl):ARd P G o s (.c (.int k' ((c.toNat:Nat):Int))):=rd_conv8 ho hx h1 h2 hk
theorem jrv (k k':IntKind) {a:Int} {t u:TypeId} {x:Operand} (ho:o.op=.convert t u x:=by exact rfl) (hx:s.eval x=.c (.int k a):=by exact rfl) (hS:InR k' a:=by (show _∧_;(first|omega|decide|(dsimp only at *;omega)))) (h1:P.underlying t=some (.int k):=by kernel_rfl) (h2:P.underlying u=some (.int k'):=by kernel_rfl):ARd P G o s (.c (.int k' a)):=rd_convI ho hx h1 h2 a (wrap_id hS)
theorem jrvW (k k':IntKind) {a z:Int} {t u:TypeId} {x:Operand} (ho:o.op=.convert t u x:=by exact rfl) (hx:s.eval x=.c (.int k a):=by exact rfl) (hr:k'.wrap a=z:=by exact rfl) (h1:P.underlying t=some (.int k):=by kernel_rfl) (h2:P.underlying u=some (.int k'):=by kernel_rfl):ARd P G o s (.c (.int k' z)):=rd_convI ho hx h1 h2 z hr
theorem jrbs {t u:TypeId} {x:Operand} {a:List UInt8} (ho:o.op=.convert t u x:=by exact rfl) (hx:s.eval x=bsC a:=by exact rfl) (hT:jbyT P t=true:=by kernel_rfl) (h3:P.underlying u=some .string:=by kernel_rfl):ARd P G o s (strC a):=by
 obtain ⟨e,h1,h2⟩:=jbyT_ok hT
 exact rd_convBL ho hx h1 h2 h3
theorem jrbn {t u:TypeId} {x:Operand} (ho:o.op=.convert t u x:=by exact rfl) (hx:s.eval x=.c (.slice none 0 0):=by exact rfl) (hT:jbyT P t=true:=by kernel_rfl) (h3:P.underlying u=some .string:=by kernel_rfl):ARd P G o s (.c (.string ⟨#[]⟩)):=by
 obtain ⟨e,h1,h2⟩:=jbyT_ok hT
 exact rd_convBN ho hx h1 h2 h3
theorem jrbo {t u:TypeId} {x:Operand} {i n N:Nat} {g:Option Nat} {L:List UInt8} (ho:o.op=.convert t u x:=by exact rfl) (hx:s.eval x=.os i g 0 n 1:=by exact rfl) (hH:Holds s i g N (byF L):=by first|exact .inl rfl|exact .inr rfl) (hn:n=L.length:=by first|rfl|simp) (hN:n≤N:=by first|exact Nat.le_refl _|simp) (hT:jbyT P t=true:=by kernel_rfl) (h3:P.underlying u=some .string:=by kernel_rfl):ARdO P G o s (strC L):=by
 obtain ⟨e,h1,h2⟩:=jbyT_ok hT
 exact rd_convB1 ho hx hH hn hN h1 h2 h3
theorem jrsf {t:TypeId} {p a:Operand} {z1:Int} {k1:IntKind} {l:Nat} {bl:List UInt8} (ho:o.op=.slice t p (some a) none none:=by exact rfl) (hx:s.eval p=bsC bl:=by exact rfl) (ha:s.eval a=.c (.int k1 z1):=by exact rfl) (hz1:z1=(l:Int):=by first|exact rfl|exact natI (by omega)) (hS:l≤bl.length:=by first|omega|decide|(dsimp only at *;omega)) (hT:jslQ P t 1=true:=by kernel_rfl):ARd P G o s (bsC (bl.drop l)):=by
 obtain ⟨e,h1,h5⟩:=jslQ_ok hT
 exact rd_sliceB_from ho hx h1 h5 ha hz1 hS
theorem jrst {t:TypeId} {p b:Operand} {z2:Int} {k2:IntKind} {v:Nat} {bl:List UInt8} (ho:o.op=.slice t p none (some b) none:=by exact rfl) (hx:s.eval p=bsC bl:=by exact rfl) (hb:s.eval b=.c (.int k2 z2):=by exact rfl) (hz2:z2=(v:Int):=by first|exact rfl|exact natI (by omega)) (hS:v≤bl.length:=by first|omega|decide|(dsimp only at *;omega)) (hT:jslQ P t 1=true:=by kernel_rfl):ARd P G o s (bsC (bl.take v)):=by
 obtain ⟨e,h1,h5⟩:=jslQ_ok hT
 exact rd_sliceB_to ho hx h1 h5 hb hz2 hS
theorem jrsb {t:TypeId} {p a b:Operand} {z1 z2:Int} {k1 k2:IntKind} {l v:Nat} {bl:List UInt8} (ho:o.op=.slice t p (some a) (some b) none:=by exact rfl) (hx:s.eval p=bsC bl:=by exact rfl) (ha:s.eval a=.c (.int k1 z1):=by exact rfl) (hz1:z1=(l:Int):=by first|exact rfl|exact natI (by omega)) (hb:s.eval b=.c (.int k2 z2):=by exact rfl) (hz2:z2=(v:Int):=by first|exact rfl|exact natI (by omega)) (hS:l≤v:=by first|omega|decide|(dsimp only at *;omega)) (hS2:v≤bl.length:=by first|omega|decide|(dsimp only at *;omega)) (hT:jslQ P t 1=true:=by kernel_rfl):ARd P G o s (bsC ((bl.take v).drop l)):=by
 obtain ⟨e,h1,h5⟩:=jslQ_ok hT
 exact rd_sliceB ho hx h1 h5 ha hz1 hb hz2 hS hS2
theorem jrsr {t:TypeId} {p:Operand} {m n l v:Nat} {f:Nat→Nat→CV} {lo hi:Option Operand} (ho:o.op=.slice t p lo hi none:=by exact rfl) (hx:s.eval p=.rs m n f:=by exact rfl) (hl:Bd s 0 lo l:=by first|exact bd_none _ _|exact bd_some rfl rfl|exact bd_some rfl (natI (by omega))) (hu:Bd s n hi v:=by first|exact bd_none _ _|exact bd_some rfl rfl|exact bd_some rfl (natI (by omega))) (hS:l≤v:=by first|omega|decide|(dsimp only at *;omega)) (hS2:v≤n:=by first|omega|decide|(dsimp only at *;omega)) (hT:jslQ P t m=true:=by kernel_rfl):ARd P G o s (.rs m (v-l) fun i j=>f (l+i) j):=by
 obtain ⟨e,h1,h5⟩:=jslQ_ok hT
 exact rd_sliceR ho hx h1 h5 hl hu hS hS2
theorem jrso {t:TypeId} {p:Operand} {i off m n l v:Nat} {g:Option Nat} {lo hi:Option Operand} (ho:o.op=.slice t p lo hi none:=by exact rfl) (hx:s.eval p=.os i g off n m:=by exact rfl) (hl:Bd s 0 lo l:=by first|exact bd_none _ _|exact bd_some rfl rfl|exact bd_some rfl (natI (by omega))) (hu:Bd s n hi v:=by first|exact bd_none _ _|exact bd_some rfl rfl|exact bd_some rfl (natI (by omega))) (hS:l≤v:=by first|omega|decide|(dsimp only at *;omega)) (hS2:v≤n:=by first|omega|decide|(dsimp only at *;omega)) (hS3:l=0∨l<n:=by first|omega|decide|(dsimp only at *;omega)) (hT:jslQ P t m=true:=by kernel_rfl):ARd P G o s (.os i g (off+l * m) (v-l) m):=by
 obtain ⟨e,h1,h5⟩:=jslQ_ok hT
 exact rd_sliceO ho hx h1 h5 hl hu hS hS2 hS3
theorem jrdo {t:TypeId} {x:Operand} {i off n:Nat} {g:Option Nat} {f:Nat→CV} {v:CV} (ho:o.op=.load t x:=by exact rfl) (hx:s.eval x=.op i g off:=by exact rfl) (hH:Holds s i g n f:=by first|exact .inl rfl|exact .inr rfl) (hv:f off=v:=by first|exact jflO_eq rfl|exact jfz_eq rfl) (hn:off<n:=by first|decide|omega|(dsimp only at *;omega)) (hT:jldQ P t=true:=by kernel_rfl):ARdO P G o s v:=by
 obtain ⟨d,h1,ha⟩:=jldQ_ok hT
 exact rd_loadO ho hx hH h1 ha hn hv
theorem jrdr {t:TypeId} {x:Operand} {n:Nat} {f:Nat→CV} {v:CV} (ho:o.op=.load t x:=by exact rfl) (hx:s.eval x=.rp n f:=by exact rfl) (hv:f 0=v:=by first|exact jflO_eq rfl|exact jfz_eq rfl) (hn:0<n:=by first|decide|omega|(dsimp only at *;omega)) (hT:jldQ P t=true:=by kernel_rfl):ARd P G o s v:=by
 obtain ⟨d,h1,ha⟩:=jldQ_ok hT
 exact rd_loadR ho hx h1 ha hn hv
theorem jrdoA (m:Nat) {t:TypeId} {x:Operand} {i off n:Nat} {g:Option Nat} {f:Nat→CV} (ho:o.op=.load t x:=by exact rfl) (hx:s.eval x=.op i g off:=by exact rfl) (hH:Holds s i g n f:=by first|exact .inl rfl|exact .inr rfl) (hn:off+m≤n:=by first|decide|omega|(dsimp only at *;omega)) (hT:jtyQ P t m true=true:=by kernel_rfl):ARdO P G o s (.agg m fun j=>f (off+j)):=by
 obtain ⟨d,h1,ha,h5⟩:=jtyQ_ok hT
 exact rd_loadOA ho hx hH h1 ha h5 hn
theorem jrdrA (m:Nat) {t:TypeId} {x:Operand} {n:Nat} {f:Nat→CV} (ho:o.op=.load t x:=by exact rfl) (hx:s.eval x=.rp n f:=by exact rfl) (hn:m≤n:=by first|decide|omega|(dsimp only at *;omega)) (hT:jtyQ P t m true=true:=by kernel_rfl):ARd P G o s (.agg m f):=by
 obtain ⟨d,h1,ha,h5⟩:=jtyQ_ok hT
 exact rd_loadRA ho hx h1 ha h5 hn
theorem jrde (i:Nat) [h0:HasE G.gs i] {t:TypeId} {g:Nat} (ho:o.op=.load t (.global g):=by exact rfl) (hg:gs[i]?=some g:=by exact rfl) (hT:jldQ P t=true:=by kernel_rfl):ARd P G o s (.err (i+1)):=by
 obtain ⟨d,h1,ha⟩:=jldQ_ok hT
 exact rd_loadE i ho hg h1 ha
theorem jq {d:Nat} {v:CV} (h:ARd P G o ⟨env,b0,H⟩ v) (hk:ASeq P G ops r ⟨(d,v)::env,b0,H⟩ K) (hd:o.dst=some d:=by exact rfl) (hN:Nat.blt d G.N=true:=by exact rfl) (hw:Wanted G ops o ⟨env,b0,H⟩ true:=by first|exact wanted_none rfl|exact wanted_is rfl rfl rfl rfl true rfl):ASeq P G ops (o::r) ⟨env,b0,H⟩ K:=q_rd hw hd hN h hk
theorem jqo {d:Nat} {v:CV} (h:ARdO P G o ⟨env,b0,H⟩ v) (hk:ASeq P G ops r ⟨(d,v)::env,b0,H⟩ K) (hd:o.dst=some d:=by exact rfl) (hN:Nat.blt d G.N=true:=by exact rfl) (hw:Wanted G ops o ⟨env,b0,H⟩ true:=by first|exact wanted_none rfl|exact wanted_is rfl rfl rfl rfl true rfl):ASeq P G ops (o::r) ⟨env,b0,H⟩ K:=q_rdO hw hd hN h hk
theorem jqs {d:Nat} (hk:ASeq P G ops r ⟨(d,.c undef)::env,b0,H⟩ K) (hd:o.dst=some d:=by exact rfl) (hN:Nat.blt d G.N=true:=by exact rfl) (hw:Wanted G ops o ⟨env,b0,H⟩ false:=by first|exact wanted_is rfl rfl rfl rfl false rfl|exact wanted_undef rfl rfl rfl rfl):ASeq P G ops (o::r) ⟨env,b0,H⟩ K:=q_skip hw hd hN hk
theorem jqe (h:AEx P G o ⟨env,b0,H⟩ (fun s'=>ASeq P G ops r s' K)) (hw:Wanted G ops o ⟨env,b0,H⟩ true:=by first|exact wanted_none rfl|exact wanted_is rfl rfl rfl rfl true rfl):ASeq P G ops (o::r) ⟨env,b0,H⟩ K:=seq_ex hw h
theorem jqm (h:AMd P G o ⟨env,b0,H⟩ (fun s'=>ASeq P G ops r s' K)) (hw:Wanted G ops o ⟨env,b0,H⟩ true:=by first|exact wanted_none rfl|exact wanted_is rfl rfl rfl rfl true rfl):ASeq P G ops (o::r) ⟨env,b0,H⟩ K:=seq_md hw h
def jopG:List Oper→Nat→Oper
 | [],_=>default
 | a::_,0=>a
 | _::l,i+1=>jopG l i
section
variable {i:Nat} {t:Ord}
theorem jopG_at (h:Nat.blt i ops.size=true):ops[i]?=some (jopG ops.toList i):=by
 have hlt:i<ops.size:=Nat.le_of_ble_eq_true h
 rw [Array.getElem?_eq_getElem hlt]
 have key:∀ (l:List Oper) (i:Nat) (hi:i<l.length),l[i]=jopG l i:=fun l=>by
  induction l with
  | nil=>intro i hi;simp at hi
  | cons a l ih =>
   intro i hi
   cases i with
   | zero=>rfl
   | succ i=>exact ih i (by simpa using hi)
 have:=key ops.toList i (by simpa using hlt)
 rw [← this,Array.getElem_toList]
theorem joT_rd (hi:Nat.blt i ops.size=true):opsOfT ops (.rd i t)=.rd (jopG ops.toList i) (opsOfT ops t):=by simp only [opsOfT,jopG_at hi]
theorem joT_one (hi:Nat.blt i ops.size=true):opsOfT ops (.one i t)=.one (jopG ops.toList i) (opsOfT ops t):=by simp only [opsOfT,jopG_at hi]
theorem jyq {d:Nat} {v:CV} (h:ARd P G (jopG ops.toList i) ⟨env,b0,H⟩ v) (hk:AX P G ops (opsOfT ops t) ⟨(d,v)::env,b0,H⟩ K) (hd:(jopG ops.toList i).dst=some d:=by exact rfl) (hN:Nat.blt d G.N=true:=by exact rfl) (hw:Wanted G ops (jopG ops.toList i) ⟨env,b0,H⟩ true:=by first|exact wanted_none rfl|exact wanted_is rfl rfl rfl rfl true rfl) (hi:Nat.blt i ops.size=true:=by exact rfl):AX P G ops (opsOfT ops (.rd i t)) ⟨env,b0,H⟩ K:=by rw [joT_rd hi];exact y_rd hw hd hN h hk
theorem jyo {d:Nat} {v:CV} (h:ARdO P G (jopG ops.toList i) ⟨env,b0,H⟩ v) (hk:AX P G ops (opsOfT ops t) ⟨(d,v)::env,b0,H⟩ K) (hd:(jopG ops.toList i).dst=some d:=by exact rfl) (hN:Nat.blt d G.N=true:=by exact rfl) (hw:Wanted G ops (jopG ops.toList i) ⟨env,b0,H⟩ true:=by first|exact wanted_none rfl|exact wanted_is rfl rfl rfl rfl true rfl) (hi:Nat.blt i ops.size=true:=by exact rfl):AX P G ops (opsOfT ops (.rd i t)) ⟨env,b0,H⟩ K:=by rw [joT_rd hi];exact y_rdO hw hd hN h hk
theorem jys {d:Nat} (hk:AX P G ops (opsOfT ops t) ⟨(d,.c undef)::env,b0,H⟩ K) (hd:(jopG ops.toList i).dst=some d:=by exact rfl) (hN:Nat.blt d G.N=true:=by exact rfl) (hw:Wanted G ops (jopG ops.toList i) ⟨env,b0,H⟩ false:=by first|exact wanted_is rfl rfl rfl rfl false rfl|exact wanted_undef rfl rfl rfl rfl) (hi:Nat.blt i ops.size=true:=by exact rfl):AX P G ops (opsOfT ops (.rd i t)) ⟨env,b0,H⟩ K:=by rw [joT_rd hi];exact y_skip hw hd hN hk
theorem jys1 {d:Nat} (hk:AX P G ops (opsOfT ops t) ⟨(d,.c undef)::env,b0,H⟩ K) (hd:(jopG ops.toList i).dst=some d:=by exact rfl) (hN:Nat.blt d G.N=true:=by exact rfl) (hw:Wanted G ops (jopG ops.toList i) ⟨env,b0,H⟩ false:=by first|exact wanted_is rfl rfl rfl rfl false rfl|exact wanted_undef rfl rfl rfl rfl) (hi:Nat.blt i ops.size=true:=by exact rfl):AX P G ops (opsOfT ops (.one i t)) ⟨env,b0,H⟩ K:=by rw [joT_one hi];exact y_noone hw hd hN hk
theorem jye (h:AEx P G (jopG ops.toList i) ⟨env,b0,H⟩ (fun s'=>AX P G ops (opsOfT ops t) s' K)) (hw:Wanted G ops (jopG ops.toList i) ⟨env,b0,H⟩ true:=by first|exact wanted_none rfl|exact wanted_is rfl rfl rfl rfl true rfl) (hi:Nat.blt i ops.size=true:=by exact rfl):AX P G ops (opsOfT ops (.one i t)) ⟨env,b0,H⟩ K:=by rw [joT_one hi];exact x_one hw h
theorem jzq {d:Nat} {v:CV} (h:ARd P G (jopG ops.toList i) ⟨env,b0,H⟩ v) (hk:AZ P G ops (opsOfT ops t) ⟨(d,v)::env,b0,H⟩ K) (hd:(jopG ops.toList i).dst=some d:=by exact rfl) (hN:Nat.blt d G.N=true:=by exact rfl) (hw:Wanted G ops (jopG ops.toList i) ⟨env,b0,H⟩ true:=by first|exact wanted_none rfl|exact wanted_is rfl rfl rfl rfl true rfl) (hi:Nat.blt i ops.size=true:=by exact rfl):AZ P G ops (opsOfT ops (.rd i t)) ⟨env,b0,H⟩ K:=by rw [joT_rd hi];exact zz_rd hw hd hN h hk
theorem jzo {d:Nat} {v:CV} (h:ARdO P G (jopG ops.toList i) ⟨env,b0,H⟩ v) (hk:AZ P G ops (opsOfT ops t) ⟨(d,v)::env,b0,H⟩ K) (hd:(jopG ops.toList i).dst=some d:=by exact rfl) (hN:Nat.blt d G.N=true:=by exact rfl) (hw:Wanted G ops (jopG ops.toList i) ⟨env,b0,H⟩ true:=by first|exact wanted_none rfl|exact wanted_is rfl rfl rfl rfl true rfl) (hb:ownB ops (jopG ops.toList i)=true:=by kernel_rfl) (hi:Nat.blt i ops.size=true:=by exact rfl):AZ P G ops (opsOfT ops (.rd i t)) ⟨env,b0,H⟩ K:=by rw [joT_rd hi];exact zz_rdO hw hd hN hb h hk
theorem jz1o {d:Nat} {v:CV} (h:ARdO P G (jopG ops.toList i) ⟨env,b0,H⟩ v) (hk:AZ P G ops (opsOfT ops t) ⟨(d,v)::env,b0,H⟩ K) (hd:(jopG ops.toList i).dst=some d:=by exact rfl) (hN:Nat.blt d G.N=true:=by exact rfl) (hw:Wanted G ops (jopG ops.toList i) ⟨env,b0,H⟩ true:=by first|exact wanted_none rfl|exact wanted_is rfl rfl rfl rfl true rfl) (hi:Nat.blt i ops.size=true:=by exact rfl):AZ P G ops (opsOfT ops (.one i t)) ⟨env,b0,H⟩ K:=by rw [joT_one hi];exact zz_one1O hw hd hN h hk
theorem jzs {d:Nat} (hk:AZ P G ops (opsOfT ops t) ⟨(d,.c undef)::env,b0,H⟩ K) (hd:(jopG ops.toList i).dst=some d:=by exact rfl) (hN:Nat.blt d G.N=true:=by exact rfl) (hw:Wanted G ops (jopG ops.toList i) ⟨env,b0,H⟩ false:=by first|exact wanted_is rfl rfl rfl rfl false rfl|exact wanted_undef rfl rfl rfl rfl) (hi:Nat.blt i ops.size=true:=by exact rfl):AZ P G ops (opsOfT ops (.rd i t)) ⟨env,b0,H⟩ K:=by rw [joT_rd hi];exact zz_skip hw hd hN hk
theorem jze (h:AEx P G (jopG ops.toList i) ⟨env,b0,H⟩ (fun s'=>AZ P G ops (opsOfT ops t) s' K)) (hw:Wanted G ops (jopG ops.toList i) ⟨env,b0,H⟩ true:=by first|exact wanted_none rfl|exact wanted_is rfl rfl rfl rfl true rfl) (hi:Nat.blt i ops.size=true:=by exact rfl):AZ P G ops (opsOfT ops (.one i t)) ⟨env,b0,H⟩ K:=by rw [joT_one hi];exact z_ex hw h
theorem jzm (h:AMd P G (jopG ops.toList i) ⟨env,b0,H⟩ (fun s'=>AZ P G ops (opsOfT ops t) s' K)) (hw:Wanted G ops (jopG ops.toList i) ⟨env,b0,H⟩ true:=by first|exact wanted_none rfl|exact wanted_is rfl rfl rfl rfl true rfl) (hm:isMod (jopG ops.toList i)=true:=by exact rfl) (hi:Nat.blt i ops.size=true:=by exact rfl):AZ P G ops (opsOfT ops (.one i t)) ⟨env,b0,H⟩ K:=by rw [joT_one hi];exact z_md hw hm h
theorem jyd (h:K s):AX P G ops (opsOfT ops .done) s K:=x_done h
theorem jzd (h:K s):AZ P G ops (opsOfT ops .done) s K:=z_done h
theorem jytwo {j:Nat} {u:Ord} (h1:AX P G ops (opsOfT ops (.one i t)) s K) (h2:AX P G ops (opsOfT ops (.one j u)) s K) (hi:Nat.blt i ops.size=true:=by exact rfl) (hj:Nat.blt j ops.size=true:=by exact rfl):AX P G ops (opsOfT ops (.two i t j u)) s K:=by
 rw [joT_one hi] at h1
 rw [joT_one hj] at h2
 simp only [opsOfT,jopG_at hi,jopG_at hj]
 exact x_two h1 h2
theorem jztwo {j:Nat} {u:Ord} (h1:AZ P G ops (opsOfT ops (.one i t)) s K) (h2:AZ P G ops (opsOfT ops (.one j u)) s K) (hi:Nat.blt i ops.size=true:=by exact rfl) (hj:Nat.blt j ops.size=true:=by exact rfl):AZ P G ops (opsOfT ops (.two i t j u)) s K:=by
 rw [joT_one hi] at h1
 rw [joT_one hj] at h2
 simp only [opsOfT,jopG_at hi,jopG_at hj]
 exact z_two h1 h2
end
theorem jcg {id:Nat} (h:ASeq P G ops ops.toList s (R .normal)) (hd:rdB G.rd ops=true:=by rfl):ACode P G (.region id ops false) s R:=code_region h hd
theorem jcd {id:Nat} (t:Ord) (h:AX P G ops (opsOfT ops t) s (R .normal)) (hm:P.follows .mixedOrders=true:=by kernel_rfl) (hs:Region.noSelect ops=true:=by kernel_rfl) (hl:t.len=ops.size:=by exact rfl) (hin:t.within ops.size=true:=by kernel_rfl) (hB:orderT .any ops t (Array.replicate ops.size false)=true:=by kernel_rfl) (hd:rdB G.rd ops=true:=by rfl):ACode P G (.region id ops true) s R:=code_draw t hm hs hl hin hB h hd
theorem jcdB {id:Nat} (m:Nat) (t:Ord) (h:AX P G ops (opsOfT ops t) s (fun s'=>ASeq P G ops (ops.toList.drop m) s' (R .normal))) (hmix:P.follows .mixedOrders=true:=by kernel_rfl) (hs:Region.noSelect ops=true:=by kernel_rfl) (hm:Nat.ble m ops.size=true:=by exact rfl) (hl:t.len=m:=by exact rfl) (hin:t.within ops.size=true:=by kernel_rfl) (hc:coverB .any ops m=true:=by kernel_rfl)
  (hB:orderB2 .any ops m t (Array.replicate ops.size false)=true:=by kernel_rfl) (ht:tailB .any ops (ops.size-m) m (barL m ops.size)=true:=by kernel_rfl) (hd:rdB G.rd ops=true:=by rfl) (hy:G.yl=false:=by rfl):ACode P G (.region id ops true) s R:=code_drawB m t hmix hs hm hl hin hc hB ht h hd hy
theorem jcdZ {id:Nat} (u:Ord) (h:AZ P G ops (opsOfT ops u) s (R .normal)) (hmix:P.follows .mixedOrders=true:=by kernel_rfl) (hs:Region.noSelect ops=true:=by kernel_rfl) (hul:u.len=ops.size:=by exact rfl) (huin:u.within ops.size=true:=by kernel_rfl) (hu:orderT .any ops u (Array.replicate ops.size false)=true:=by kernel_rfl) (hd:rdB G.rd ops=true:=by rfl):ACode P G (.region id ops true) s R:=code_drawZ u hmix hs hul huin hu h hd
theorem jcs (h:ACode P G x s (thenR (fun s'=>ACode P G y s' R) R)):ACode P G (.seq x y) s R:=code_seq h
theorem jcr {id:Nat} (h:ASeq P G ops ops.toList s (fun s'=>ACode P G y s' R)) (hd:rdB G.rd ops=true:=by rfl):ACode P G (.seq (.region id ops false) y) s R:=code_seq (code_region h hd)
theorem jtn (h:Y s):thenR Y R .normal s:=h
theorem jte {i:Nat} (h:R (.exit i) s):thenR Y R (.exit i) s:=h
theorem jtr (h:R .ret s):thenR Y R .ret s:=h
theorem jbn {i:Nat} (h:R .normal s):blockR i R .normal s:=h
theorem jbr {i:Nat} (h:R .ret s):blockR i R .ret s:=h
theorem jbx {i j:Nat} (h:R .normal s) (he:Nat.beq j i=true:=by exact rfl):blockR i R (.exit j) s:=block_exit he h
theorem jbx2 {i j:Nat} (h:R (.exit j) s) (he:Nat.beq j i=false:=by exact rfl):blockR i R (.exit j) s:=block_exit2 he h
def jCondPN (c:CV) (p n:Prop):Prop:=∃ t:Bool,c=.c (.bool t)∧(t=true→p)∧(t=false→n)
theorem jcpD {p:Prop} [Decidable p] {c:CV} (h:c=.c (.bool (decide p))):jCondPN c p (¬ p):=⟨_,h,of_decide_eq_true,of_decide_eq_false⟩
theorem jcpB {t:Bool} {c:CV} (h:c=.c (.bool t)):jCondPN c (t=true) (t=false):=⟨_,h,id,id⟩
theorem jcc {d:Nat} {p n:Prop} (ht:p→ACode P G x ⟨(d,.c (.bool true))::env,b0,H⟩ R) (hf:n→ACode P G y ⟨(d,.c (.bool false))::env,b0,H⟩ R) (hl:jCondPN (look env b0 d) p n:=by first|exact jcpD rfl|exact jcpB rfl) (hN:Nat.blt d G.N=true:=by exact rfl):ACode P G (.cond (.tmp d) x y) ⟨env,b0,H⟩ R:=by
 obtain ⟨t,h1,h2,h3⟩:=hl
 exact code_condS hN h1 (fun e=>ht (h2 e)) (fun e=>hf (h3 e))
theorem jcT {d:Operand} (h:ACode P G x s R) (hl:s.eval d=.c (.bool true):=by exact rfl):ACode P G (.cond d x y) s R:=code_condT hl h
theorem jcF {d:Operand} (h:ACode P G y s R) (hl:s.eval d=.c (.bool false):=by exact rfl):ACode P G (.cond d x y) s R:=code_condF hl h
theorem jqsp (d:Nat) {p n:Prop} (ht:p→ASeq P G ops r ⟨(d,.c (.bool true))::env,b0,H⟩ K) (hf:n→ASeq P G ops r ⟨(d,.c (.bool false))::env,b0,H⟩ K) (hl:jCondPN (look env b0 d) p n:=by first|exact jcpD rfl|exact jcpB rfl) (hN:Nat.blt d G.N=true:=by exact rfl):ASeq P G ops r ⟨env,b0,H⟩ K:=by
 obtain ⟨t,h1,h2,h3⟩:=hl
 exact seq_split hN h1 (fun e=>ht (h2 e)) (fun e=>hf (h3 e))
theorem jysp {tr:OrdO} (d:Nat) {p n:Prop} (ht:p→AX P G ops tr ⟨(d,.c (.bool true))::env,b0,H⟩ K) (hf:n→AX P G ops tr ⟨(d,.c (.bool false))::env,b0,H⟩ K) (hl:jCondPN (look env b0 d) p n:=by first|exact jcpD rfl|exact jcpB rfl) (hN:Nat.blt d G.N=true:=by exact rfl):AX P G ops tr ⟨env,b0,H⟩ K:=by
 obtain ⟨t,h1,h2,h3⟩:=hl
 exact x_split hN h1 (fun e=>ht (h2 e)) (fun e=>hf (h3 e))
theorem jeal {n:Nat} {t:TypeId} {z:Value} {d:Nat} (hz:(P.info? t).map (·.zero)=some (some z)) (hn:z.cells.size=n) (hK:∀ g,K ⟨(d,.op H.length g 0)::env,b0,H++[(g,.blk n fun j=>.c (z.cells.getD j undef))]⟩) (ho:o.op=.alloc t:=by exact rfl) (hd:o.dst=some d:=by exact rfl) (hN:Nat.blt d G.N=true:=by exact rfl):AEx P G o ⟨env,b0,H⟩ K:=e_alloc ho hz hn hd hN hK
theorem jebx (n:Nat) {t:TypeId} {p:Operand} {c:CV} {l:List CV} {d:Nat} (hK:∀ g,K ⟨(d,.op H.length g 0)::env,b0,H++[(g,.blk n (fl l))]⟩) (ho:o.op=.box t p:=by exact rfl) (hx:(⟨env,b0,H⟩:AS).eval p=c:=by first|exact jev_t rfl|exact jev_l rfl rfl rfl|exact jev_f rfl) (hl:cellsC c=some l:=by exact rfl) (hn:l.length=n:=by exact rfl) (hd:o.dst=some d:=by exact rfl) (hN:Nat.blt d G.N=true:=by exact rfl):AEx P G o ⟨env,b0,H⟩ K:=e_box ho hx hl hn hd hN hK
theorem jebl (n m:Nat) {e t:TypeId} {z:Value} {len:Nat} {parts:Array (Nat×Operand)} {l:List CV} {d:Nat} (hz:(P.info? e).map (·.zero)=some (some z)) (hK:∀ g,K ⟨(d,.os H.length g 0 len m)::env,b0,H++[(g,.blk n (fl l))]⟩) (ho:o.op=.buildSlice t len parts:=by exact rfl) (h1:P.underlying t=some (.slice e):=by kernel_rfl) (h5:(P.info? e).map (·.size)=some m:=by kernel_rfl) (hm:Nat.ble (len * m) 16777216=true:=by exact rfl) (hlen:Nat.ble len 16777216=true:=by exact rfl)
  (hf:fillC (fun i=>some (i * m,m)) ((List.range (len * m)).map fun i=>.c (z.cells[i % z.cells.size]!)) (parts.toList.map fun p=>(p.1,(⟨env,b0,H⟩:AS).eval p.2))=some l:=by exact rfl) (hn:l.length=n:=by exact rfl) (hle:n=len * m:=by exact rfl) (hd:o.dst=some d:=by exact rfl) (hN:Nat.blt d G.N=true:=by exact rfl):AEx P G o ⟨env,b0,H⟩ K:=e_buildSlice ho h1 h5 hz hm hlen hf hn hle hd hN hK
theorem jecv {t u:TypeId} {x:Operand} {a:List UInt8} {d:Nat} (hK:K ⟨(d,bsC a)::env,b0,H⟩) (ho:o.op=.convert t u x:=by exact rfl) (hx:(⟨env,b0,H⟩:AS).eval x=strC a:=by exact rfl) (h1:P.underlying t=some .string:=by kernel_rfl) (hT:jbyT P u=true:=by kernel_rfl) (hS:a.length≤9223372036854775807:=by first|omega|decide|(dsimp only at *;omega)) (hd:o.dst=some d:=by exact rfl) (hN:Nat.blt d G.N=true:=by exact rfl):AEx P G o ⟨env,b0,H⟩ K:=by
 obtain ⟨e,h2,h3⟩:=jbyT_ok hT
 exact e_convLB ho hx h1 h2 h3 hS hd hN hK
theorem jecP {f:FuncId} {xs:Array Operand} {ats:Array TypeId} {args:List CV} {m:CV} {d:Nat} (hA:ACp G.gs P f args m) (hK:K ⟨(d,m)::env,b0,H⟩) (ho:o.op=.call ⟨.value (.func f),xs,ats⟩:=by exact rfl) (hc:calleeB P f=true:=by kernel_rfl) (he:SEL G ⟨env,b0,H⟩ xs.toList args:=by (repeat (first|exact .nil|refine .cons (by first|exact se rfl cZ|exact se rfl CEnt.nil|exact se rfl cN|exact se rfl (cO rfl)|exact se rfl cP|exact se_nilO rfl|exact se rfl CEnt.fn0|exact se rfl jag|exact se_frzB _ rfl rfl rfl (by simp) (fun _ _=>cZ)) ?_))) (hd:o.dst=some d:=by exact rfl) (hN:Nat.blt d G.N=true:=by exact rfl):AEx P G o ⟨env,b0,H⟩ K:=e_callP ho hc hA he hd hN hK
theorem jecS {f:FuncId} {xs:Array Operand} {ats:Array TypeId} {args:List CV} {Q:CV→List (Option Nat×Res)→Prop} {d:Nat} (hA:AC G.gs P f [] args Q) (hK:∀ r H',Q r H'→K ⟨(d,r)::env,b0,H++H'⟩) (ho:o.op=.call ⟨.value (.func f),xs,ats⟩:=by exact rfl) (hc:calleeB P f=true:=by kernel_rfl) (he:SEL G ⟨env,b0,H⟩ xs.toList args:=by (repeat (first|exact .nil|refine .cons (by first|exact se rfl cZ|exact se rfl CEnt.nil|exact se rfl cN|exact se rfl (cO rfl)|exact se rfl cP|exact se_nilO rfl|exact se rfl CEnt.fn0|exact se rfl jag|exact se_frzB _ rfl rfl rfl (by simp) (fun _ _=>cZ)) ?_))) (hd:o.dst=some d:=by exact rfl) (hN:Nat.blt d G.N=true:=by exact rfl):AEx P G o ⟨env,b0,H⟩ K:=e_callS ho hc hA he hd hN hK
theorem jecO {f:FuncId} {xs:Array Operand} {ats:Array TypeId} {args:List CV} {n m N:Nat} {F:Nat→CV} {d:Nat} (hA:AC G.gs P f [] args (OwnQ n m N F)) (hK:∀ g,K ⟨(d,.os H.length g 0 n m)::env,b0,H++[(g,.blk N F)]⟩) (ho:o.op=.call ⟨.value (.func f),xs,ats⟩:=by exact rfl) (hc:calleeB P f=true:=by kernel_rfl) (he:SEL G ⟨env,b0,H⟩ xs.toList args:=by (repeat (first|exact .nil|refine .cons (by first|exact se rfl cZ|exact se rfl CEnt.nil|exact se rfl cN|exact se rfl (cO rfl)|exact se rfl cP|exact se_nilO rfl|exact se rfl CEnt.fn0|exact se rfl jag|exact se_frzB _ rfl rfl rfl (by simp) (fun _ _=>cZ)) ?_))) (hd:o.dst=some d:=by exact rfl) (hN:Nat.blt d G.N=true:=by exact rfl):AEx P G o ⟨env,b0,H⟩ K:=e_callO ho hc hA he hd hN hK
theorem jmcH (i:Nat) {f:FuncId} {xs:Array Operand} {ats:Array TypeId} {args:List CV} {Q:CV→List (Option Nat×Res)→Prop} {d:Nat} {x0:Option Nat×Res} (hA:AC G.gs P f [x0] args Q) (hK:∀ r H',Q r H'→∃ x r',H'=[x]∧CEnt r r'∧K ⟨(d,r')::env,b0,H.set i x⟩) (hi:H[i]?=some x0:=by exact rfl) (ho:o.op=.call ⟨.value (.func f),xs,ats⟩:=by exact rfl) (hc:calleeB P f=true:=by kernel_rfl) (he:SEL G ⟨env,b0,H⟩ xs.toList args:=by (repeat (first|exact .nil|refine .cons (by first|exact se rfl cZ|exact se rfl CEnt.nil|exact se rfl cN|exact se rfl (cO rfl)|exact se rfl cP|exact se_nilO rfl|exact se rfl CEnt.fn0|exact se rfl jag|exact se_frzB _ rfl rfl rfl (by simp) (fun _ _=>cZ)) ?_))) (hd:o.dst=some d:=by exact rfl) (hN:Nat.blt d G.N=true:=by exact rfl):AMd P G o ⟨env,b0,H⟩ K:=m_callH ho hc hi hA he hd hN hK
theorem jmcE (i:Nat) {f:FuncId} {xs:Array Operand} {ats:Array TypeId} {args:List CV} {m:CV} {d:Nat} {x0 x:Option Nat×Res} (hA:AC G.gs P f [x0] args fun r H'=>r=m∧H'=[x]) (hK:K ⟨(d,m)::env,b0,H.set i x⟩) (hi:H[i]?=some x0:=by exact rfl) (ho:o.op=.call ⟨.value (.func f),xs,ats⟩:=by exact rfl) (hc:calleeB P f=true:=by kernel_rfl) (he:SEL G ⟨env,b0,H⟩ xs.toList args:=by (repeat (first|exact .nil|refine .cons (by first|exact se rfl cZ|exact se rfl CEnt.nil|exact se rfl cN|exact se rfl (cO rfl)|exact se rfl cP|exact se_nilO rfl|exact se rfl CEnt.fn0|exact se rfl jag|exact se_frzB _ rfl rfl rfl (by simp) (fun _ _=>cZ)) ?_))) (hd:o.dst=some d:=by exact rfl) (hN:Nat.blt d G.N=true:=by exact rfl):AMd P G o ⟨env,b0,H⟩ K :=
 jmcH i hA (fun _ _ ⟨e1,e2⟩=>⟨x,m,e2,e1 ▸ cZ,hK⟩) hi ho hc he hd hN
theorem jmcO (i:Nat) {f:FuncId} {xs:Array Operand} {ats:Array TypeId} {args:List CV} {n m N:Nat} {F:Nat→CV} {d:Nat} {x0:Option Nat×Res} (hA:AC G.gs P f [x0] args (OwnQ n m N F)) (hK:∀ g,K ⟨(d,.os i g 0 n m)::env,b0,H.set i (g,.blk N F)⟩) (hi:H[i]?=some x0:=by exact rfl) (ho:o.op=.call ⟨.value (.func f),xs,ats⟩:=by exact rfl) (hc:calleeB P f=true:=by kernel_rfl) (he:SEL G ⟨env,b0,H⟩ xs.toList args:=by (repeat (first|exact .nil|refine .cons (by first|exact se rfl cZ|exact se rfl CEnt.nil|exact se rfl cN|exact se rfl (cO rfl)|exact se rfl cP|exact se_nilO rfl|exact se rfl CEnt.fn0|exact se rfl jag|exact se_frzB _ rfl rfl rfl (by simp) (fun _ _=>cZ)) ?_))) (hd:o.dst=some d:=by exact rfl) (hN:Nat.blt d G.N=true:=by exact rfl):AMd P G o ⟨env,b0,H⟩ K:=m_callO ho hc hi hA he hd hN hK
theorem jmst (m:Nat) {t:TypeId} {p q:Operand} {i off n:Nat} {g:Option Nat} {f:Nat→CV} {c:CV} {l:List CV} (hK:K ⟨env,b0,H.set i (g,.blk n (updF f off l))⟩) (ho:o.op=.store t p q:=by exact rfl) (hx:(⟨env,b0,H⟩:AS).eval p=.op i g off:=by exact rfl) (hH:H[i]?=some (g,.blk n f):=by exact rfl) (hy:(⟨env,b0,H⟩:AS).eval q=c:=by first|exact jev_t rfl|exact jev_l rfl rfl rfl|exact jev_f rfl) (hl:cellsC c=some l:=by exact rfl) (hm:l.length=m:=by exact rfl) (h5:(P.info? t).map (·.size)=some m:=by kernel_rfl) (hleaf:l.all leafC=true:=by exact rfl) (hn:off+m≤n:=by first|decide|omega|(dsimp only at *;omega)) (hd:o.dst=none:=by exact rfl):AMd P G o ⟨env,b0,H⟩ K :=
 m_store ho hx hH hy hl h5 hm hleaf hn _ (fun _ _=>cZ) hd hK
theorem jmstF (m:Nat) (F:Nat→CV) {t:TypeId} {p q:Operand} {i off n:Nat} {g:Option Nat} {f:Nat→CV} {c:CV} {l:List CV} (hF:∀ j,j<n→CEnt (updF f off l j) (F j)) (hK:K ⟨env,b0,H.set i (g,.blk n F)⟩) (ho:o.op=.store t p q:=by exact rfl) (hx:(⟨env,b0,H⟩:AS).eval p=.op i g off:=by exact rfl) (hH:H[i]?=some (g,.blk n f):=by exact rfl) (hy:(⟨env,b0,H⟩:AS).eval q=c:=by first|exact jev_t rfl|exact jev_l rfl rfl rfl|exact jev_f rfl) (hl:cellsC c=some l:=by exact rfl) (hm:l.length=m:=by exact rfl) (h5:(P.info? t).map (·.size)=some m:=by kernel_rfl) (hleaf:l.all leafC=true:=by exact rfl) (hn:off+m≤n:=by first|decide|omega|(dsimp only at *;omega)) (hd:o.dst=none:=by exact rfl):AMd P G o ⟨env,b0,H⟩ K :=
 m_store ho hx hH hy hl h5 hm hleaf hn F hF hd hK
theorem javA (m:Nat) {d:Nat} {t:TypeId} {i off n:Nat} {g:Option Nat} {f:Nat→CV} (h:look s.env s.b d=.op i g off:=by exact rfl) (hH:Holds s i g n f:=by first|exact .inl rfl|exact .inr rfl) (hn:off+m≤n:=by first|decide|omega|(dsimp only at *;omega)) (hT:jtyQ P t m true=true:=by kernel_rfl):ARV P G s (.cell d t) (.agg m fun j=>f (off+j)):=by
 obtain ⟨ds,h1,ha,h5⟩:=jtyQ_ok hT
 exact arv_cellA h hH h1 ha h5 hn
theorem javt {t:Nat} {c:CV} (h:s.eval (.tmp t)=c:=by first|exact jev_t rfl|exact jev_l rfl rfl rfl|exact jev_f rfl):ARV P G s (.tmp t) c:=arv_tmp h
theorem jrt {fn:Func} {e:Exit} {v m:CV} (hres:ARes P G fn s v:=by first|exact res_1 rfl javt|exact res_2 rfl javt javt|exact res_3 rfl javt javt javt|exact res_4 rfl javt javt javt javt|exact res_0 rfl) (hv:CEnt v m:=by first|exact cZ|exact CEnt.nil) (he:e=.ret∨e=.normal:=by first|exact .inl rfl|exact .inr rfl):bodyR P G fn (fun r H=>r=m∧H=[]) e s:=end_val he hres hv
theorem jnh {fn:Func} {e:Exit} {v m:CV} {x:Option Nat×Res} (hH:s.H[0]?=some x:=by exact rfl) (hres:ARes P G fn s v:=by first|exact res_1 rfl javt|exact res_0 rfl|exact res_2 rfl javt javt|exact res_3 rfl javt javt javt) (hv:CEnt v m:=by first|exact cZ|exact CEnt.nil|exact jag) (he:e=.ret∨e=.normal:=by first|exact .inl rfl|exact .inr rfl):bodyR P G fn (fun r H'=>r=m∧H'=[x]) e s :=
 end_own he m [x] [0] (by decide) (by simp [pickL,List.getD,hH]) (hres.ent hv) ⟨rfl,rfl⟩
theorem jlend {α:Type} {k:Nat} {φ:α→Prop} {μ:α→Nat} {D:List Nat} {M:α→List (Nat×CV)} {Hp:α→List (Option Nat×Res)} {b1:Nat→CV} (p':α) (h1:φ p':=by first|omega|exact True.intro|(dsimp only;omega)) (h2:μ p'<k:=by first|omega|(dsimp only;omega)) (h5:EntE s.env s.b (M p'):=by (repeat (first|exact EntE.nil|refine EntE.cons cZ ?_|refine EntE.cons (cI (by omega)) ?_|refine EntE.cons (cO rfl) ?_))) (h7:HEnt (s.H.take (Hp p').length) (Hp p'):=by (repeat (first|exact HEnt.nil|refine HEnt.same ?_|refine HEnt.blk rfl (fun j hj=>by rcases j with _|_|_|_|_|_|_|_|j <;> first|exact cZ|exact cI (by omega)|omega) ?_)))
  (h3:BLe D b1 s.b:=by first|exact .refl|exact .nest .refl rfl rfl|exact .nest (.nest .refl rfl rfl) rfl rfl|exact .nest (.nest (.nest .refl rfl rfl) rfl rfl) rfl rfl|(repeat (first|exact .refl|refine .nest ?_ rfl rfl|refine BLe.look2 ?_ rfl))) (h4:kD D s.env=true:=by exact rfl) (h6:(Hp p').length≤s.H.length:=by exact Nat.le_of_ble_eq_true rfl) :
  LEnd D b1 M Hp φ μ k s:=⟨p',h1,h2,h3,h4,h5,h6,h7⟩
theorem jjend {α:Type} {φ:α→Prop} {D:List Nat} {M:α→List (Nat×CV)} {Hp:α→List (Option Nat×Res)} {b1:Nat→CV} (p':α) (h1:φ p':=by first|omega|exact True.intro|(dsimp only;omega)) (h5:EntE s.env s.b (M p'):=by (repeat (first|exact EntE.nil|refine EntE.cons cZ ?_|refine EntE.cons (cI (by omega)) ?_|refine EntE.cons (cO rfl) ?_))) (h7:HEnt (s.H.take (Hp p').length) (Hp p'):=by (repeat (first|exact HEnt.nil|refine HEnt.same ?_|refine HEnt.blk rfl (fun j hj=>by rcases j with _|_|_|_|_|_|_|_|j <;> first|exact cZ|exact cI (by omega)|omega) ?_)))
  (h3:BLe D b1 s.b:=by first|exact .refl|exact .nest .refl rfl rfl|exact .nest (.nest .refl rfl rfl) rfl rfl|exact .nest (.nest (.nest .refl rfl rfl) rfl rfl) rfl rfl|(repeat (first|exact .refl|refine .nest ?_ rfl rfl|refine BLe.look2 ?_ rfl))) (h4:kD D s.env=true:=by exact rfl) (h6:(Hp p').length≤s.H.length:=by exact Nat.le_of_ble_eq_true rfl) :
  JEnd D b1 M Hp φ s:=⟨p',h1,h3,h4,h5,h6,h7⟩
theorem jlp {c:Code} {α:Type} (D:List Nat) (M:α→List (Nat×CV)) (Hp:α→List (Option Nat×Res)) (φ:α→Prop) (μ:α→Nat) (p0:α) (h0:φ p0:=by first|exact Nat.zero_le _|omega|exact True.intro|(dsimp only;omega)|(simp;done)) (he:EntE env b0 (M p0):=by (repeat (first|exact EntE.nil|refine EntE.cons cZ ?_|refine EntE.cons (cI (by omega)) ?_|refine EntE.cons (cO rfl) ?_))) (hH:HEnt H (Hp p0):=by (repeat (first|exact HEnt.nil|refine HEnt.same ?_|refine HEnt.blk rfl (fun j hj=>by rcases j with _|_|_|_|_|_|_|_|j <;> first|exact cZ|exact cI (by omega)|omega) ?_))) (hM:∀ p,kD D (M p)=true:=by exact fun _=>rfl)
  (hr:∀ p,φ p→ACode P G c ⟨M p,lay D env b0,Hp p⟩ (thenR (fun s'=>LEnd D (lay D env b0) M Hp φ μ (μ p) s') R)):ACode P G (.loop c) ⟨env,b0,H⟩ R:=l_loop D M Hp φ μ p0 h0 hM he hH hr
theorem jjn {α:Type} (D:List Nat) (M:α→List (Nat×CV)) (Hp:α→List (Option Nat×Res)) (φ:α→Prop) (h1:ACode P G x ⟨[],look s.env s.b,s.H⟩ (thenR (fun s'=>JEnd D (look s.env s.b) M Hp φ s') R)) (h2:∀ p,φ p→ACode P G y ⟨M p,lay D s.env s.b,Hp p⟩ R) (hM:∀ p,kD D (M p)=true:=by exact fun _=>rfl):ACode P G (.seq x y) s R:=code_join D M Hp φ hM h1 h2
def japQ (P:Program) (t u:TypeId) (m b:Nat):Bool:=match P.underlying t with
 | some (.slice e)=>notInt P u && (match P.info? e with|some I=>Nat.beq I.size m && Nat.beq I.bytes b && (match I.zero with|some z=>Nat.beq z.cells.size m|none=>false)|none=>false)
 | _=>false
theorem japQ_ok {t u:TypeId} {m b:Nat} (h:japQ P t u m b=true):∃ e z,P.underlying t=some (.slice e)∧notInt P u=true∧(P.info? e).map (·.size)=some m∧(P.info? e).map (·.zero)=some (some z)∧(P.info? e).map (·.bytes)=some b∧z.cells.size=m:=by
 unfold japQ at h
 split at h
 ·rename_i e he
  rw [Bool.and_eq_true] at h
  obtain ⟨h0,h⟩:=h
  split at h
  ·rename_i I hI
   rw [Bool.and_eq_true,Bool.and_eq_true] at h
   obtain ⟨⟨h1,h2⟩,h⟩:=h
   split at h
   ·rename_i z hz
    exact ⟨e,z,he,h0,by rw [hI,← Nat.eq_of_beq_eq_true h1];rfl,by rw [hI,← hz];rfl,by rw [hI,← Nat.eq_of_beq_eq_true h2];rfl,Nat.eq_of_beq_eq_true h⟩
   ·cases h
  ·cases h
 ·cases h
section
variable {p q:Operand} {t u:TypeId} {i N d:Nat} {g:Option Nat} {f:Nat→CV}
def SrcC {α:Type} (P:Program) (G:Gh) (s:AS) (q:Operand) (k:Nat) (C:List α→Nat→CV) (l2:List α):Prop:=∃ m h,ASrc P G s q k m h∧m=l2.length∧(∀ j,j<l2.length * k→CEnt (h j) (C l2 j))∧∀ j,j<m * k→leafC (h j)=true
theorem sbR {l2:List UInt8} (hq:s.eval q=bsC l2:=by exact rfl):SrcC P G s q 1 byF l2:=⟨_,_,src_rs hq,rfl,fun j hj=>by simp only [Nat.div_one];exact cZ,fun j hj=>rfl⟩
theorem sbS {l2:List UInt8} (hq:s.eval q=strC l2:=by exact rfl):SrcC P G s q 1 byF l2:=⟨_,_,src_str hq,rfl,fun j hj=>cZ,fun j hj=>rfl⟩
theorem sbO {α:Type} {k:Nat} {C:List α→Nat→CV} {l2:List α} {i2 n N2:Nat} {g2:Option Nat} (hq:s.eval q=.os i2 g2 0 n k:=by exact rfl) (hQ:Holds s i2 g2 N2 (C l2):=by first|exact .inl rfl|exact .inr rfl) (hN2:0+n * k≤N2:=by first|omega|simp) (hm:n=l2.length:=by exact rfl) (hl:∀ j,leafC (C l2 j)=true:=by exact fun j=>rfl):SrcC P G s q k C l2:=⟨_,_,src_os hq hQ hN2,hm,fun j hj=>by rw [Nat.zero_add];exact cZ,fun j hj=>hl _⟩
theorem sbL {α:Type} {k:Nat} {C:List α→Nat→CV} {l2:List α} {i2 m N2:Nat} {g2:Option Nat} {cs:List CV} (hq:s.eval q=.os i2 g2 0 m k:=by exact rfl) (hQ:Holds s i2 g2 N2 (fl cs):=by first|exact .inl rfl|exact .inr rfl) (hN2:0+m * k≤N2:=by decide) (hm:m=l2.length:=by exact rfl) (hc:cs.all leafC=true:=by exact rfl) (hc2:m * k=cs.length:=by exact rfl) (hh:AllB (l2.length * k) fun j=>CEnt (fl cs (0+j)) (C l2 j):=by (repeat refine And.intro (by first|exact cZ|exact cN|exact CEnt.nilS' rfl|exact cI (by omega)) ?_);exact True.intro):SrcC P G s q k C l2:=⟨_,_,src_os hq hQ hN2,hm,allB hh,leaf_flk hc hc2⟩
theorem sbC {α:Type} {k:Nat} {C:List α→Nat→CV} {l2:List α} {m:Nat} {F:Nat→Nat→CV} (hq:s.eval q=.rs k m F:=by exact rfl) (hm:m=l2.length:=by exact rfl) (hh:∀ j,j<l2.length * k→CEnt (F (j / k) (j % k)) (C l2 j):=by first|exact fun j hj=>cZ|exact fun j hj=>by (simp only [Nat.div_one];exact cZ)) (hleaf:∀ j,j<m * k→leafC (F (j / k) (j % k))=true:=by exact fun j hj=>rfl):SrcC P G s q k C l2:=⟨_,_,src_rs hq,hm,hh,hleaf⟩
theorem jab {l l2:List UInt8} (hK:∀ g',K ⟨(d,.os i g' 0 (l++l2).length 1)::env,b0,H.set i (g',.blk (l++l2).length (byF (l++l2)))⟩) (ho:o.op=.call ⟨.builtin .append,#[p,q],#[t,u]⟩:=by exact rfl) (hx:(⟨env,b0,H⟩:AS).eval p=.os i g 0 l.length 1:=by exact rfl) (hH:H[i]?=some (g,.blk N f):=by exact rfl) (hs:SrcC P G ⟨env,b0,H⟩ q 1 byF l2:=by first|exact sbR|exact sbS|exact sbL|exact sbO) (hN:l.length≤N:=by first|exact Nat.le_refl _|exact Nat.zero_le _|omega) (hf:∀ j,j<l.length→CEnt (f j) (byF l j):=by first|exact fun _ _=>cZ|exact fun j hj=>absurd hj (Nat.not_lt_zero j)) (h63:l.length+l2.length≤140737488355328:=by first|omega|(simp;done)|(simp;omega)|(simp at *;omega)) (hT:japQ P t u 1 1=true:=by kernel_rfl) (hd:o.dst=some d:=by exact rfl) (hdN:Nat.blt d G.N=true:=by exact rfl):AMd P G o ⟨env,b0,H⟩ K:=by
 obtain ⟨e,z,h1,hu,h5,hz,hby,hzk⟩:=japQ_ok hT
 obtain ⟨m,h,hsrc,hm,hh,hleaf⟩:=hs
 exact m_appendB ho hx hH hN hf hsrc hm (fun j hj=>hh j (by omega)) h1 hu h5 hz hby hzk h63 hleaf hd hdN hK
theorem jac {α:Type} {C:List α→Nat→CV} {k N' n:Nat} (b:Nat) (hC:RowC k C) {l l2:List α} (hK:∀ g',K ⟨(d,.os i g' 0 (l++l2).length k)::env,b0,H.set i (g',.blk N' (C (l++l2)))⟩) (ho:o.op=.call ⟨.builtin .append,#[p,q],#[t,u]⟩:=by exact rfl) (hx:(⟨env,b0,H⟩:AS).eval p=.os i g 0 n k:=by exact rfl) (hn:n=l.length:=by exact rfl) (hH:H[i]?=some (g,.blk N f):=by exact rfl) (hs:SrcC P G ⟨env,b0,H⟩ q k C l2:=by first|exact sbC|exact sbL|exact sbO) (hN:l.length * k≤N:=by first|exact Nat.le_refl _|exact Nat.le_of_eq (Nat.mul_one _)|exact Nat.le_of_eq (Nat.zero_mul _)|omega) (hf:∀ j,j<l.length * k→CEnt (f j) (C l j):=by first|exact fun _ _=>cZ|exact fun j hj=>absurd hj (by simp)) (h63:l.length+l2.length≤9223372036854775807:=by first|omega|(simp;done)|(simp;omega)|(simp at *;omega)) (h48:(l.length+l2.length) * b≤140737488355328:=by first|omega|(simp;done)|(simp;omega)|(simp at *;omega)) (hT:japQ P t u k b=true:=by kernel_rfl) (hd:o.dst=some d:=by exact rfl) (hdN:Nat.blt d G.N=true:=by exact rfl) (hN':(l++l2).length * k=N':=by exact rfl):AMd P G o ⟨env,b0,H⟩ K:=by
 obtain ⟨e,z,h1,hu,h5,hz,hby,hzk⟩:=japQ_ok hT
 obtain ⟨m,h,hsrc,hm,hh,hleaf⟩:=hs
 exact m_appendC hC ho hx hn hH hN hf hsrc hm hh h1 hu h5 hz hby hzk h63 h48 hleaf hd hdN hN' hK
end
def oN:Nat→Nat→Ord
 | _,0=>.done
 | a,n+1=>.rd a (oN (a+1) n)
def oT:List Nat→Ord→Ord
 | [],t=>t
 | i::r,t=>match Nat.mod i 2 with|0=>.rd (Nat.div i 2) (oT r t)|_=>.one (Nat.div i 2) (oT r t)
end
section
variable {G:Gh} {o:Oper} {s:AS}
def jerrN:CV→Option Nat
 | .err k=>some k
 | .c .nilIface=>some 0
 | _=>none
def jerrZ (op:BinOp) (n:Nat):Option Bool:=match op with|.eql=>some (decide (n=0))|.neq=>some (decide (n≠0))|_=>none
theorem jre {op:BinOp} {x:Operand} {u:TypeId} {n:Nat} {z:Bool} (ho:o.op=.binOp op 37 x (.const .nilIface) u:=by exact rfl) (hx:jerrN (s.eval x)=some n:=by exact rfl) (hz:jerrZ op n=some z:=by exact rfl):ARd Tryz.prog G o s (.c (.bool z)):=by
 unfold jerrN at hx
 cases op <;> simp only [jerrZ,Option.some.injEq,reduceCtorEq] at hz
 all_goals subst hz
 ·split at hx
  ·rename_i h;cases hx;exact rd_eqE ho h
  ·rename_i h;cases hx;exact rd_eqE0 ho h
  ·cases hx
 ·split at hx
  ·rename_i h;cases hx;exact rd_neE ho h
  ·rename_i h;cases hx;exact rd_neE0 ho h
  ·cases hx
end
end
section
set_option maxHeartbeats 1000000
section
variable {P:Program} {G:Gh} {ops:Array Oper} {o:Oper} {s:AS} {K:AS→Prop} {t u:TypeId} {x y:Operand} {k:IntKind}
def AMx (P:Program) (G:Gh) (g:Option Nat) (o:Oper) (s:AS) (K:AS→Prop):Prop:=∀ St a w,RelSt G St s a w→∀ Q,o.wp P a w (fun a' w'=>(∀ q,q<w.heap.size→g≠some q→w'.heap[q]?=w.heap[q]?)∧∃ St',(∀ b,St b→St' b)∧∃ s',K s'∧RelSt G St' s' a' w') Q
theorem md_storeX {i off n m:Nat} {g:Option Nat} {f:Nat→CV} {c:CV} {l:List CV} (ho:o.op=.store t x y) (hx:s.eval x=.op i g off) (hH:s.H[i]?=some (g,.blk n f)) (hy:s.eval y=c) (hl:cellsC c=some l) (h5:(P.info? t).map (·.size)=some m) (hm:l.length=m) (hleaf:l.all leafC=true) (hn:off+m≤n)
  (F:Nat→CV) (hF:∀ j,j<n→CEnt (updF f off l j) (F j)) (hd:dstOk G o=true) (hK:K (s.with o.dst (.c undef) (s.H.set i (g,.blk n F)))):AMx P G g o s K:=fun St a w hr Q=>by
 obtain ⟨info,hi,h6⟩:=Option.map_eq_some_iff.1 h5
 obtain ⟨b,rfl,e⟩:=evR hr hx
 have hc:=cells_rep (evR hr hy) hl
 obtain ⟨fp,hp⟩:=hr.hp
 obtain ⟨h00,cur,ty,hh,hle,hcell⟩:=hp.rep i (some b) _ hH
 have hst:=run_storeCells_at P b off ty (a.eval y).cells.toList 0 cur w hh (by simp [hc.1];omega) (storeAll hc hleaf)
 simp only [Nat.add_zero] at hst
 have hrun:(execOp a.eval o).run P w=.ok .skip (w.setRow b (cur.toList.take off++(a.eval y).cells.toList++cur.toList.drop (off+(a.eval y).cells.toList.length)).toArray):=by
  simp only [execOp,ho,e]
  simp [Instr.storeAt,Instr.sureAddr,storeVar,sizeOf,typeInfo,hi,h6,hc.1,hm]
  rw [show (a.eval y).cells.toList.length=m by simp [hc.1,hm]] at hst
  simp [hst]
 unfold Oper.wp
 rw [hrun]
 have hlen:(a.eval y).cells.toList.length=m:=by simp [hc.1,hm]
 refine ⟨fun q _ hg=>setRow_other w b q _ (fun e=>hg (by rw [e])),St,fun _ h=>h,_,hK,?_⟩
 have hw:=hr.write hH hh (cs:=(cur.toList.take off++(a.eval y).cells.toList++cur.toList.drop (off+(a.eval y).cells.toList.length)).toArray) (by simp [hc.1];omega) (n':=n) (f':=F) (by simp [hc.1];omega) (fun j hj=>by
  refine hF j hj _ _ _ _ ?_
  rw [updF_get,row_at cur _ off (by rw [hlen];omega),hlen,hm]
  by_cases h1:off≤j∧j<off+m
  ·rw [if_pos h1,if_pos h1]
   have:=hc.2 (j-off) (by omega)
   simpa [List.getD] using this
  ·rw [if_neg h1,if_neg h1]
   exact hcell j hj)
 have:=hw.put (dst:=o.dst) (v:=.c undef) (x:=undef) (dst_of hd) rfl
 cases ho:o.dst with
 | none=>rw [ho] at this;exact this
 | some d=>rw [ho] at this;exact this

theorem md_appendX {e:TypeId} {z:Value} {i n m k N by_:Nat} {g:Option Nat} {f h:Nat→CV} (ho:o.op=.call ⟨.builtin .append,#[x,y],#[t,u]⟩) (hx:s.eval x=.os i g 0 n k) (hH:s.H[i]?=some (g,.blk N f)) (hN:n * k≤N)
  (hsrc:ASrc P G s y k m h) (h1:P.underlying t=some (.slice e)) (hu:notInt P u=true) (h5:(P.info? e).map (·.size)=some k) (hz:(P.info? e).map (·.zero)=some (some z)) (hby:(P.info? e).map (·.bytes)=some by_)
  (h63:n+m≤9223372036854775807) (h48:(n+m) * by_≤140737488355328) (hzk:z.cells.size=k)
  (F:Nat→CV) (hF:∀ j,j<(n+m) * k→CEnt (appF (n * k) f h j) (F j)) (hleaf:∀ j,j<m * k→leafC (h j)=true) (hd:dstOk G o=true)
  (hK:∀ g',K (s.with o.dst (.os i g' 0 (n+m) k) (s.H.set i (g',.blk ((n+m) * k) F)))):AMx P G g o s K:=fun St a w hr Q=>by
 obtain ⟨info,hi,hs⟩:=Option.map_eq_some_iff.1 h5
 obtain ⟨info',hi',hz⟩:=Option.map_eq_some_iff.1 hz
 obtain rfl:=Option.some.inj (hi.symm.trans hi')
 obtain ⟨info',hi',hby⟩:=Option.map_eq_some_iff.1 hby
 obtain rfl:=Option.some.inj (hi.symm.trans hi')
 obtain ⟨news,hnl,hnr,hrun⟩:=hsrc St a w hr
 have he:=evR hr hx
 have hlen:(n+m) * k=n * k+m * k:=Nat.add_mul ..
 -- the value's parts
 obtain ⟨base,cap,ev,hle,hcap,hbase⟩:∃ base cap,a.eval x=.slice base n cap∧n≤cap∧cap≤9223372036854775807∧((g=none∧base=none∧cap=0∧n=0)∨∃ b,g=some b∧base=some ⟨b,0,none⟩∧∃ cur t z,w.heap[b]?=some (.cells cur t z)∧0+cap * k≤cur.size):=by
  cases g with
  | none=>obtain ⟨h1,h2⟩:=he;exact ⟨none,0,by rw [h2,h1],by omega,by omega,.inl ⟨rfl,rfl,rfl,h1⟩⟩
  | some b=>obtain ⟨cap,h1,h2,h3,h4⟩:=he;exact ⟨_,cap,h1,h2,h3,.inr ⟨b,rfl,rfl,h4⟩⟩
 have hargs:(#[x,y]:Array Operand).map a.eval=#[a.eval x,a.eval y]:=by simp
 have put:∀ {w':World} {v:Value} {c:CV} {H:List (Option Nat×Res)},RelSt G St ⟨s.env,s.b,H⟩ a w'→RepC G.al St w' c v→RelSt G St (s.with o.dst c H) (a.put o.dst v) w':=fun {w' v c H} h1 h2=>by
  have:=h1.put (dst:=o.dst) (dst_of hd) h2
  cases ho:o.dst with
  | none=>rw [ho] at this;exact this
  | some d=>rw [ho] at this;exact this
 by_cases hroom:n+m≤cap
 ·-- in place
  rcases hbase with ⟨hg,hb,hc0,hn0⟩|⟨b,hg,hb,cu,tt,zz,hcu,hfit⟩
  ·subst hg hb
   have hm0:m=0:=by omega
   subst hm0
   have hrun':=run_app_room (t:=t) (u:=u) (ty:=o.type) h1 hu hi hs (hrun w rfl).1 (hrun w rfl).2 hroom (base:=none) (w':=w) (fun _ h=>by simp at h) (fun _=>rfl)
   unfold Oper.wp
   rw [exec_append ho (by rw [hargs,ev];exact hrun')]
   refine ⟨fun _ _ _=>rfl,St,fun _ h=>h,_,hK none,?_⟩
   have hlt:=(List.getElem?_eq_some_iff.1 hH).1
   have hmv:RelSt G St ⟨s.env,s.b,s.H.set i (none,.blk ((n+0) * k) F)⟩ a w:=by
    refine ⟨hr.df,hr.sz,hr.env,hr.un,hr.s1,hr.s2,hr.s3,?_,hr.sn,hr.sg⟩
    obtain ⟨fp,hp⟩:=hr.hp
    refine ⟨fp,fun j q r hj=>?_,hp.dis,hp.own,fun j hj=>hp.out j (by simpa using hj)⟩
    by_cases hj2:j=i
    ·subst hj2
     simp [hlt] at hj
     obtain ⟨rfl,rfl⟩:=hj
     exact ⟨by simp [hn0],(hp.rep j none _ hH).2⟩
    ·rw [List.getElem?_set_ne (Ne.symm hj2)] at hj
     exact hp.rep j q r hj
   exact put hmv ⟨by omega,by rw [hn0,hc0]⟩
  ·subst hg hb
   obtain ⟨fp,hp⟩:=hr.hp
   obtain ⟨hb0,cur,ty,hh,hle2,hcell⟩:=hp.rep i (some b) _ hH
   have hq:=Option.some.inj (hcu.symm.trans hh)
   injection hq with e1 e2 e3
   have hfit:0+cap * k≤cur.size:=e1 ▸ hfit
   have hfit2:n * k+news.length≤cur.size:=by
    rw [hnl,← hlen]
    exact Nat.le_trans (Nat.mul_le_mul_right _ hroom) (by omega)
   have hone:∀ v ∈ news,v.oneCell'=true:=fun v hv=>by
    obtain ⟨j,hj,e⟩:=List.mem_iff_getElem.1 hv
    have h2:=hnr j (by omega)
    rw [show news.getD j undef=v by simp [List.getD,hj,e]] at h2
    exact leaf_one (hleaf j (by omega)) h2
   have hst:=run_storeCells_at P b (n * k) ty news 0 cur w hh (by simpa using hfit2) hone
   simp only [Nat.add_zero] at hst
   have hrun':=run_app_room (t:=t) (u:=u) (ty:=o.type) h1 hu hi hs (hrun w rfl).1 (hrun w rfl).2 hroom (base:=some ⟨b,0,none⟩) (w':=w.setRow b (cur.toList.take (n * k)++news++cur.toList.drop (n * k+news.length)).toArray) (fun ad h=>by
    have h:=Option.some.inj h
    subst h
    rw [addr_add,Nat.zero_add]
    exact hst) (fun h=>by simp at h)
   unfold Oper.wp
   rw [exec_append ho (by rw [hargs,ev];exact hrun')]
   refine ⟨fun q _ hg=>setRow_other w b q _ (fun e=>hg (by rw [e])),St,fun _ h=>h,_,hK (some b),?_⟩
   have hw:=hr.write hH hh (cs:=(cur.toList.take (n * k)++news++cur.toList.drop (n * k+news.length)).toArray) (by simp;omega) (n':=(n+m) * k) (f':=F) (by simp;omega) (fun j hj=>by
    refine hF j hj _ _ _ _ ?_
    rw [row_at cur news (n * k) hfit2]
    unfold appF
    by_cases h3:j<n * k
    ·rw [if_pos h3,if_neg (by omega)];exact hcell j (by omega)
    ·rw [if_neg h3,if_pos (by omega)];exact hnr _ (by omega))
   refine put hw ⟨cap,rfl,hroom,hcap,?_⟩
   exact ⟨_,_,_,setRow_heap w b cur _ _ _ hh,by simp;omega⟩
 ·-- a new row
  have hroom:cap<n+m:=by omega
  obtain ⟨olds,hol,hor,horun⟩:SrcAt P G.al St w (.slice base n cap) k n f:=by
   rcases hbase with ⟨hg,hb,hc0,hn0⟩|⟨b,hg,hb,_⟩
   ·subst hb hn0 hc0;exact src_none
   ·subst hg hb
    obtain ⟨_,cur,tt,zz,hh,hle,hc⟩:=blkCells hr hH
    refine src_cells (g:=fun j=>cur.getD j undef) fun j hj=>⟨?_,hc j (by omega)⟩
    have hlt:j<cur.size:=by omega
    rw [Nat.zero_add,cell_of_row w b j cur tt zz hh];simp [hlt]
  have hrun':=run_app_grow (t:=t) (u:=u) (ty:=o.type) h1 hu hi hs hz (fun W hW=>(hrun W hW).1) (fun W hW=>(horun W hW).2) (fun W hW=>(hrun W hW).2) hroom h63 (by rw [hby];exact h48)
  unfold Oper.wp
  rw [exec_append ho (by rw [hargs,ev];exact hrun')]
  refine ⟨fun q hq _=>(below_drewAlloc w _).block q hq,St,fun _ h=>h,_,hK (some w.heap.size),?_⟩
  have hgc:n+m≤grownCap w (n+m) cap e∧grownCap w (n+m) cap e≤9223372036854775807:=by
   have hlt:=Nat.mod_lt (w.tape w.drawn (.appendCap (n+m) cap e)) (show 0<2 ^ 63-(n+m) by omega)
   simp only [grownCap,Question.cut]
   omega
  have hcell0:(w.drew.alloc (.cells (olds.toArray++news.toArray++Builtin.zeroCells z.cells (grownCap w (n+m) cap e-(n+m))) e)).heap[w.heap.size]?=some (.cells (olds.toArray++news.toArray++Builtin.zeroCells z.cells (grownCap w (n+m) cap e-(n+m))) e (0,0)):=heap_alloc_new w.drew _
  have hsize:(olds.toArray++news.toArray++Builtin.zeroCells z.cells (grownCap w (n+m) cap e-(n+m))).size=grownCap w (n+m) cap e * k:=by
   simp [Builtin.zeroCells,hol,hnl,hzk]
   rw [← Nat.add_mul,← Nat.add_mul]
   congr 1
   omega
  have hEvo:Evo St w (w.drew.alloc (.cells (olds.toArray++news.toArray++Builtin.zeroCells z.cells (grownCap w (n+m) cap e-(n+m))) e)):=Evo.of_below (below_drewAlloc w _) hr.s3
  have hfr:=hr.fresh (below_drewAlloc w _) (Nat.le_refl _) hcell0 (n:=(n+m) * k) (f:=F) (by rw [hsize];exact Nat.mul_le_mul_right _ hgc.1) (fun j hj=>by
   refine hF j hj _ _ _ _ (RepC.evo hEvo (fun _ x=>x) _ _ ?_)
   unfold appF
   rw [row_app olds news _ j (by omega),hol]
   by_cases h3:j<n * k
   ·rw [if_pos h3,if_pos h3];exact hor j h3
   ·rw [if_neg h3,if_neg h3];exact hnr (j-n * k) (by omega))
  have hkl:=hfr.move ((List.getElem?_eq_some_iff.1 hH).1)
  refine put hkl ⟨_,rfl,hgc.1,hgc.2,_,_,_,hcell0,?_⟩
  rw [hsize]
  omega
end
section
variable {P:Program} {G:Gh} {ops:Array Oper} {o:Oper} {env:List (Nat×CV)} {b0:Nat→CV} {H:List (Option Nat×Res)} {K:AS→Prop} {t u:TypeId} {p q:Operand}
theorem m_storeX {i off n m:Nat} {g:Option Nat} {f:Nat→CV} {c:CV} {l:List CV} (ho:o.op=.store t p q) (hx:(⟨env,b0,H⟩:AS).eval p=.op i g off) (hH:H[i]?=some (g,.blk n f)) (hy:(⟨env,b0,H⟩:AS).eval q=c) (hl:cellsC c=some l) (h5:(P.info? t).map (·.size)=some m) (hm:l.length=m) (hleaf:l.all leafC=true) (hn:off+m≤n)
  (F:Nat→CV) (hF:∀ j,j<n→CEnt (updF f off l j) (F j)) (hd:o.dst=none) (hK:K ⟨env,b0,H.set i (g,.blk n F)⟩):AMx P G g o ⟨env,b0,H⟩ K :=
 md_storeX ho hx hH hy hl h5 hm hleaf hn F hF (dst_n hd) (by rw [with_none hd];exact hK)
theorem m_appendX {e:TypeId} {z:Value} {i n m k N by_ n' N' d:Nat} {g:Option Nat} {f h:Nat→CV} (ho:o.op=.call ⟨.builtin .append,#[p,q],#[t,u]⟩) (hx:(⟨env,b0,H⟩:AS).eval p=.os i g 0 n k) (hH:H[i]?=some (g,.blk N f)) (hN:n * k≤N)
  (hsrc:ASrc P G ⟨env,b0,H⟩ q k m h) (h1:P.underlying t=some (.slice e)) (hu:notInt P u=true) (h5:(P.info? e).map (·.size)=some k) (hz:(P.info? e).map (·.zero)=some (some z)) (hby:(P.info? e).map (·.bytes)=some by_)
  (h63:n+m≤9223372036854775807) (h48:(n+m) * by_≤140737488355328) (hzk:z.cells.size=k)
  (F:Nat→CV) (hF:∀ j,j<(n+m) * k→CEnt (appF (n * k) f h j) (F j)) (hleaf:∀ j,j<m * k→leafC (h j)=true) (hd:o.dst=some d) (hdN:Nat.blt d G.N=true) (hn':n+m=n') (hN':(n+m) * k=N')
  (hK:∀ g',K ⟨(d,.os i g' 0 n' k)::env,b0,H.set i (g',.blk N' F)⟩):AMx P G g o ⟨env,b0,H⟩ K :=
 md_appendX ho hx hH hN hsrc h1 hu h5 hz hby h63 h48 hzk F hF hleaf (dst_s hd hdN) fun g'=>by subst hn';subst hN';rw [with_some hd];exact hK g'
theorem m_appendCX {α:Type} {C:List α→Nat→CV} {k:Nat} (hC:RowC k C) {e:TypeId} {z:Value} {i n N N' by_ d:Nat} {t u:TypeId} {p q:Operand} {env:List (Nat×CV)} {b0:Nat→CV} {H:List (Option Nat×Res)} {K:AS→Prop} {g:Option Nat} {f h:Nat→CV} {l l2:List α} {m:Nat} (ho:o.op=.call ⟨.builtin .append,#[p,q],#[t,u]⟩) (hx:(⟨env,b0,H⟩:AS).eval p=.os i g 0 n k) (hn:n=l.length) (hH:H[i]?=some (g,.blk N f)) (hN:l.length * k≤N) (hf:∀ j,j<l.length * k→CEnt (f j) (C l j))
  (hsrc:ASrc P G ⟨env,b0,H⟩ q k m h) (hm:m=l2.length) (hh:∀ j,j<l2.length * k→CEnt (h j) (C l2 j)) (h1:P.underlying t=some (.slice e)) (hu:notInt P u=true) (h5:(P.info? e).map (·.size)=some k) (hz:(P.info? e).map (·.zero)=some (some z)) (hby:(P.info? e).map (·.bytes)=some by_) (hzk:z.cells.size=k)
  (h63:l.length+l2.length≤9223372036854775807) (h48:(l.length+l2.length) * by_≤140737488355328) (hleaf:∀ j,j<m * k→leafC (h j)=true) (hd:o.dst=some d) (hdN:Nat.blt d G.N=true) (hN':(l++l2).length * k=N')
  (hK:∀ g',K ⟨(d,.os i g' 0 (l++l2).length k)::env,b0,H.set i (g',.blk N' (C (l++l2)))⟩):AMx P G g o ⟨env,b0,H⟩ K:=by
 subst hm hn
 refine m_appendX ho hx hH hN hsrc h1 hu h5 hz hby h63 h48 hzk (C (l++l2)) (fun j hj=>?_) hleaf hd hdN List.length_append.symm (by rw [← List.length_append];exact hN') hK
 rw [← hC l l2 j hj]
 unfold appF
 split
 ·rename_i h;exact hf j h
 ·rename_i h
  refine hh _ ?_
  rw [Nat.add_mul] at hj
  omega
end
section
variable {P:Program} {G:Gh} {ops:Array Oper} {o:Oper} {s:AS} {K:AS→Prop} {n:Nat} {R:Exit→AS→Prop}
def AZL (P:Program) (G:Gh) (ops:Array Oper) (n:Nat) (t:OrdO) (s:AS) (K:AS→Prop):Prop :=
 ∀ St a w,RelSt G St s a w→∀ Q:Exit→Act→World→Prop,(∀ s' a' w',K s'→Rel G s' a' w'→Q .normal a' w')→∃ St':Nat→Prop,(∀ b,St b→St' b)∧wpXS P ops Q (fun b=>St' b∨b=n) t a w
theorem zl_done (h:K s):AZL P G ops n .done s K:=fun St _ _ hr _ hQ=>⟨St,fun _ h=>h,hQ _ _ _ h ⟨_,hr⟩⟩
theorem zl_rd {t:OrdO} {v:CV} (hw:Wanted G ops o s true) (hd:dstOk G o=true) (h:ARd P G o s v) (hk:AZL P G ops n t (s.put o.dst v) K):AZL P G ops n (.rd o t) s K:=fun St a w hr Q hQ=>by
 obtain ⟨x,hx,hv⟩:=h St a w hr
 obtain ⟨St',hs,h2⟩:=hk _ _ _ (hr.put (dst_of hd) hv) Q hQ
 exact ⟨St',hs,x,.inl (YieldsS.grow (S:=St) (fun b hb=>.inl (hs b hb)) (.inl ⟨hw St a w hr,fun W hW=>hx W hW⟩)),h2⟩
theorem zl_rdO {t:OrdO} {v:CV} (hw:Wanted G ops o s true) (hd:dstOk G o=true) (hb:ownB ops o=true) (h:ARdO P G o s v) (hk:AZL P G ops n t (s.put o.dst v) K):AZL P G ops n (.rd o t) s K:=fun St a w hr Q hQ=>by
 obtain ⟨x,hx,hv⟩:=h St a w hr
 obtain ⟨St',hs,h2⟩:=hk _ _ _ (hr.put (dst_of hd) hv) Q hQ
 exact ⟨St',hs,x,.inr ⟨hb,.inl ⟨hw St a w hr,fun W hW=>hx W hW⟩⟩,h2⟩
def ARdL (P:Program) (G:Gh) (n:Nat) (o:Oper) (s:AS) (v:CV):Prop:=∀ St a w,RelSt G St s a w→∃ x,(∀ W:World,W.heap[n]?=w.heap[n]?→(execOp a.eval o).run P W=.ok (.value x) W)∧RepC G.al St w v x
theorem zl_rdL {t:OrdO} {v:CV} (hw:Wanted G ops o s true) (hd:dstOk G o=true) (h:ARdL P G n o s v) (hk:AZL P G ops n t (s.put o.dst v) K):AZL P G ops n (.rd o t) s K:=fun St a w hr Q hQ=>by
 obtain ⟨x,hx,hv⟩:=h St a w hr
 obtain ⟨St',hs,h2⟩:=hk _ _ _ (hr.put (dst_of hd) hv) Q hQ
 exact ⟨St',hs,x,.inl (.inl ⟨hw St a w hr,fun W hW=>hx W (hW n (.inr rfl))⟩),h2⟩
theorem lent_own {St:Nat→Prop} {a:Act} {w:World} {j m:Nat} {f:Nat→CV} (hr:RelSt G St s a w) (hj:s.H[j]?=some (some n,.blk m f)):n<w.heap.size∧¬ St n:=by
 obtain ⟨fp,hp⟩:=hr.hp
 have:=hp.own j n (((hp.rep j (some n) _ hj).1 n).2 rfl)
 exact ⟨this.1,this.2.1⟩
theorem lent_ne {St:Nat→Prop} {a:Act} {w:World} {i j m N:Nat} {g:Option Nat} {f F:Nat→CV} (hr:RelSt G St s a w) (hj:s.H[j]?=some (some n,.blk m f)) (hi:s.H[i]?=some (g,.blk N F)) (hij:i≠j):g≠some n:=by
 rintro rfl
 obtain ⟨fp,hp⟩:=hr.hp
 exact hij (hp.dis i j n (((hp.rep i (some n) _ hi).1 n).2 rfl) (((hp.rep j (some n) _ hj).1 n).2 rfl))
theorem zl_md {t:OrdO} {i j m N:Nat} {g:Option Nat} {f F:Nat→CV} (hw:Wanted G ops o s true) (hm:isMod o=true) (hj:s.H[j]?=some (some n,.blk m f)) (hi:s.H[i]?=some (g,.blk N F)) (hij:i≠j) (h:AMx P G g o s (fun s'=>AZL P G ops n t s' K)):AZL P G ops n (.one o t) s K:=fun St a w hr Q hQ=>by
 refine ⟨St,fun _ h=>h,?_⟩
 unfold wpXS
 rw [if_pos (hw St a w hr)]
 have hn:=lent_own hr hj
 have hg:=lent_ne hr hj hi hij
 refine Oper.wp_mono (fun a' w' ⟨hb,St',hs,s',h1,h2⟩=>?_) (h St a w hr Q)
 obtain ⟨St2,hs2,h3⟩:=h1 St' a' w' h2 Q hQ
 refine ⟨⟨fun b hb'=>?_,fun h=>by rw [Option.any_some,hm] at h;cases h⟩,_,fun b hb=>hb.imp (fun h=>hs2 b (hs b h)) id,h3⟩
 rcases hb' with hb'|rfl
 ·refine hb b (hr.s3 b hb') ?_
  rintro rfl
  obtain ⟨fp,hp⟩:=hr.hp
  exact (hp.own i b (((hp.rep i (some b) _ hi).1 b).2 rfl)).2.1 hb'
 ·exact hb b hn.1 hg
theorem zl_ex {t:OrdO} {j m:Nat} {f:Nat→CV} (hw:Wanted G ops o s true) (hj:s.H[j]?=some (some n,.blk m f)) (h:AEx P G o s (fun s'=>AZL P G ops n t s' K)):AZL P G ops n (.one o t) s K:=fun St a w hr Q hQ=>by
 refine ⟨St,fun _ h=>h,?_⟩
 unfold wpXS
 rw [if_pos (hw St a w hr)]
 have hn:=lent_own hr hj
 refine Oper.wp_mono (fun a' w' ⟨hb,St',hs,s',h1,h2⟩=>?_) (h St a w hr Q)
 obtain ⟨St2,hs2,h3⟩:=h1 St' a' w' h2 Q hQ
 refine ⟨⟨fun b hb'=>?_,fun _=>hb⟩,_,fun b hb=>hb.imp (fun h=>hs2 b (hs b h)) id,h3⟩
 rcases hb' with hb'|rfl
 ·exact hb.block b (hr.s3 b hb')
 ·exact hb.block b hn.1
theorem zl_two {p:Oper} {t u:OrdO} (h1:AZL P G ops n (.one o t) s K) (h2:AZL P G ops n (.one p u) s K):AZL P G ops n (.two o t p u) s K:=fun St a w hr Q hQ=>by
 obtain ⟨S1,hs1,h3⟩:=h1 St a w hr Q hQ
 obtain ⟨S2,hs2,h4⟩:=h2 St a w hr Q hQ
 have h3:=wpXS_lower (S:=fun b=>St b∨b=n) (fun b hb=>hb.imp (hs1 b) id) h3
 have h4:=wpXS_lower (S:=fun b=>St b∨b=n) (fun b hb=>hb.imp (hs2 b) id) h4
 unfold wpXS at h3 h4
 exact ⟨St,fun _ h=>h,h3,h4⟩
theorem zl_ent {tr:OrdO} {s':AS} (he:EntS G s s') (h:AZL P G ops n tr s' K):AZL P G ops n tr s K:=fun St a w hr Q hQ=>by
 obtain ⟨S1,h1,h2⟩:=he St a w hr
 obtain ⟨S2,h3,h4⟩:=h S1 a w h2 Q hQ
 exact ⟨S2,fun b hb=>h3 b (h1 b hb),h4⟩
theorem code_drawL {id:Nat} (n:Nat) (u:Ord) (hmix:P.follows .mixedOrders=true) (hs:Region.noSelect ops=true) (hul:u.len=ops.size) (huin:u.within ops.size=true) (hu:orderT .any ops u (Array.replicate ops.size false)=true)
  (h:AZL P G ops n (opsOfT ops u) s (R .normal)) (hd:rdB G.rd ops=true:=by rfl):ACode P G (.region id ops true) s R:=fun a w ⟨St,hr⟩ Q hQ =>
 let ⟨_,_,h5⟩:=h St a w.drew (hr.ext (below_drew1 w)) (NoPanic (OnlyN Q)) (fun s'' a'' w'' h3 h4=>NoPanic.normal (hQ .normal s'' a'' w'' h3 h4))
 wpIn_any hd hmix (any_S u hs hul huin hu h5)
theorem rd_loadL {t:TypeId} {x:Operand} {d:TypeDesc} {i off N:Nat} {f:Nat→CV} {v:CV} (ho:o.op=.load t x) (hx:s.eval x=.op i (some n) off) (hH:Holds s i (some n) N f) (h1:P.underlying t=some d) (ha:aggB P t=false) (hn:off<N) (hv:f off=v):ARdL P G n o s v:=fun St a w h=>by
 obtain ⟨b,hb,e⟩:=evR h hx
 cases hb
 obtain ⟨hg,cur,ty,z,hh,hle,hc⟩:=holdCells h hH
 have hlt:off<cur.size:=by omega
 have hcell:w.cell? ⟨n,off,none⟩=some (cur.getD off undef):=by
  rw [cell_of_row w n off cur ty z hh];simp [hlt]
 refine ⟨_,fun W hW=>exec_load ho e (run_loadVar1 h1 ha ?_),hv ▸ hc off hn⟩
 exact (cell_of_block hW off).trans hcell
end
section
variable {P:Program} {G:Gh} {ops:Array Oper} {o:Oper} {s:AS} {env:List (Nat×CV)} {b0:Nat→CV} {H:List (Option Nat×Res)} {K:AS→Prop} {i n:Nat} {t:Ord} {R:Exit→AS→Prop}
theorem jlrd {t:TypeId} {x:Operand} {i off N:Nat} {f:Nat→CV} {v:CV} (ho:o.op=.load t x:=by exact rfl) (hx:s.eval x=.op i (some n) off:=by exact rfl) (hH:Holds s i (some n) N f:=by first|exact .inl rfl|exact .inr rfl) (hv:f off=v:=by first|exact jflO_eq rfl|exact jfz_eq rfl) (hn:off<N:=by first|decide|omega|(dsimp only at *;omega)) (hT:jldQ P t=true:=by kernel_rfl):ARdL P G n o s v:=by
 obtain ⟨d,h1,ha⟩:=jldQ_ok hT
 exact rd_loadL ho hx hH h1 ha hn hv
theorem jLL {d:Nat} {v:CV} (h:ARdL P G n (jopG ops.toList i) ⟨env,b0,H⟩ v) (hk:AZL P G ops n (opsOfT ops t) ⟨(d,v)::env,b0,H⟩ K) (hd:(jopG ops.toList i).dst=some d:=by exact rfl) (hN:Nat.blt d G.N=true:=by exact rfl) (hw:Wanted G ops (jopG ops.toList i) ⟨env,b0,H⟩ true:=by first|exact wanted_none rfl|exact wanted_is rfl rfl rfl rfl true rfl) (hi:Nat.blt i ops.size=true:=by exact rfl):AZL P G ops n (opsOfT ops (.rd i t)) ⟨env,b0,H⟩ K:=by
 rw [joT_rd hi]
 exact zl_rdL hw (by simp only [dstOk,hd];exact hN) h (by simp only [AS.put,hd];exact hk)
theorem jLq {d:Nat} {v:CV} (h:ARd P G (jopG ops.toList i) ⟨env,b0,H⟩ v) (hk:AZL P G ops n (opsOfT ops t) ⟨(d,v)::env,b0,H⟩ K) (hd:(jopG ops.toList i).dst=some d:=by exact rfl) (hN:Nat.blt d G.N=true:=by exact rfl) (hw:Wanted G ops (jopG ops.toList i) ⟨env,b0,H⟩ true:=by first|exact wanted_none rfl|exact wanted_is rfl rfl rfl rfl true rfl) (hi:Nat.blt i ops.size=true:=by exact rfl):AZL P G ops n (opsOfT ops (.rd i t)) ⟨env,b0,H⟩ K:=by
 rw [joT_rd hi]
 exact zl_rd hw (by simp only [dstOk,hd];exact hN) h (by simp only [AS.put,hd];exact hk)
theorem jLo {d:Nat} {v:CV} (h:ARdO P G (jopG ops.toList i) ⟨env,b0,H⟩ v) (hk:AZL P G ops n (opsOfT ops t) ⟨(d,v)::env,b0,H⟩ K) (hd:(jopG ops.toList i).dst=some d:=by exact rfl) (hN:Nat.blt d G.N=true:=by exact rfl) (hw:Wanted G ops (jopG ops.toList i) ⟨env,b0,H⟩ true:=by first|exact wanted_none rfl|exact wanted_is rfl rfl rfl rfl true rfl) (hb:ownB ops (jopG ops.toList i)=true:=by kernel_rfl) (hi:Nat.blt i ops.size=true:=by exact rfl):AZL P G ops n (opsOfT ops (.rd i t)) ⟨env,b0,H⟩ K:=by
 rw [joT_rd hi]
 exact zl_rdO hw (by simp only [dstOk,hd];exact hN) hb h (by simp only [AS.put,hd];exact hk)
theorem jLe (j:Nat) {m:Nat} {f:Nat→CV} (h:AEx P G (jopG ops.toList i) ⟨env,b0,H⟩ (fun s'=>AZL P G ops n (opsOfT ops t) s' K)) (hj:H[j]?=some (some n,.blk m f):=by exact rfl) (hw:Wanted G ops (jopG ops.toList i) ⟨env,b0,H⟩ true:=by first|exact wanted_none rfl|exact wanted_is rfl rfl rfl rfl true rfl) (hi:Nat.blt i ops.size=true:=by exact rfl):AZL P G ops n (opsOfT ops (.one i t)) ⟨env,b0,H⟩ K:=by rw [joT_one hi];exact zl_ex hw hj h
theorem jLm (j i0:Nat) {m N:Nat} {g:Option Nat} {f F:Nat→CV} (h:AMx P G g (jopG ops.toList i) ⟨env,b0,H⟩ (fun s'=>AZL P G ops n (opsOfT ops t) s' K)) (hj:H[j]?=some (some n,.blk m f):=by exact rfl) (h0:H[i0]?=some (g,.blk N F):=by exact rfl) (hij:i0≠j:=by decide) (hw:Wanted G ops (jopG ops.toList i) ⟨env,b0,H⟩ true:=by first|exact wanted_none rfl|exact wanted_is rfl rfl rfl rfl true rfl) (hm:isMod (jopG ops.toList i)=true:=by exact rfl) (hi:Nat.blt i ops.size=true:=by exact rfl):AZL P G ops n (opsOfT ops (.one i t)) ⟨env,b0,H⟩ K:=by rw [joT_one hi];exact zl_md hw hm hj h0 hij h
theorem jLd (h:K s):AZL P G ops n (opsOfT ops .done) s K:=zl_done h
theorem jLtwo {j:Nat} {u:Ord} (h1:AZL P G ops n (opsOfT ops (.one i t)) s K) (h2:AZL P G ops n (opsOfT ops (.one j u)) s K) (hi:Nat.blt i ops.size=true:=by exact rfl) (hj:Nat.blt j ops.size=true:=by exact rfl):AZL P G ops n (opsOfT ops (.two i t j u)) s K:=by
 rw [joT_one hi] at h1
 rw [joT_one hj] at h2
 simp only [opsOfT,jopG_at hi,jopG_at hj]
 exact zl_two h1 h2
theorem jmstFX (m:Nat) (F:Nat→CV) {t:TypeId} {p q:Operand} {i off n:Nat} {g:Option Nat} {f:Nat→CV} {c:CV} {l:List CV} (hF:∀ j,j<n→CEnt (updF f off l j) (F j)) (hK:K ⟨env,b0,H.set i (g,.blk n F)⟩) (ho:o.op=.store t p q:=by exact rfl) (hx:(⟨env,b0,H⟩:AS).eval p=.op i g off:=by exact rfl) (hH:H[i]?=some (g,.blk n f):=by exact rfl) (hy:(⟨env,b0,H⟩:AS).eval q=c:=by first|exact jev_t rfl|exact jev_l rfl rfl rfl|exact jev_f rfl) (hl:cellsC c=some l:=by exact rfl) (hm:l.length=m:=by exact rfl) (h5:(P.info? t).map (·.size)=some m:=by kernel_rfl) (hleaf:l.all leafC=true:=by exact rfl) (hn:off+m≤n:=by first|decide|omega|(dsimp only at *;omega)) (hd:o.dst=none:=by exact rfl):AMx P G g o ⟨env,b0,H⟩ K :=
 m_storeX ho hx hH hy hl h5 hm hleaf hn F hF hd hK
theorem jcdL {id:Nat} (n:Nat) (u:Ord) (h:AZL P G ops n (opsOfT ops u) s (R .normal)) (hmix:P.follows .mixedOrders=true:=by kernel_rfl) (hs:Region.noSelect ops=true:=by kernel_rfl) (hul:u.len=ops.size:=by exact rfl) (huin:u.within ops.size=true:=by kernel_rfl) (hu:orderT .any ops u (Array.replicate ops.size false)=true:=by kernel_rfl) (hd:rdB G.rd ops=true:=by rfl):ACode P G (.region id ops true) s R:=code_drawL n u hmix hs hul huin hu h hd
end
end
section
def JV (_:Nat):Prop:=True
theorem jv (k:Nat) {n:Nat} (_:JV n) (_:Nat.beq (Nat.mod n 10) k=true:=by exact rfl):JV (Nat.div n 10):=trivial
structure JB (B:Prop):Prop where v:B
theorem jUV {n:Nat} (v:JV n) {A B:Prop} (b:B) (h:JV n→JB B→A:=by
 intro c b
 repeat (first|(replace c:=jv 1 c;refine jq jrm ?_)|(replace c:=jv 2 c;refine jq jrc ?_)|(replace c:=jv 3 c;refine jq jrl ?_)|(replace c:=jv 4 c;refine jqs ?_)|(replace c:=jv 5 c;refine jN ?_)|(replace c:=jv 6 c;refine jcr ?_)|(replace c:=jv 7 c;refine jcs ?_)|(replace c:=jv 8 c;refine jtn ?_)|(replace c:=jv 9 c;refine jq jra ?_)|(replace c:=jv 0 c;first|(replace c:=jv 1 c;refine jS ?_)|(replace c:=jv 2 c;refine jB ?_)|(replace c:=jv 3 c;refine jq jrn ?_)|(replace c:=jv 4 c;refine jq jrnc ?_)|(replace c:=jv 5 c;refine jqo jrdo ?_)|(replace c:=jv 6 c;refine jq jrdr ?_)|(replace c:=jv 7 c;refine jyq jrm ?_)|(replace c:=jv 8 c;refine jyd ?_)|(replace c:=jv 9 c;refine jq (jrfa 0 1 false) ?_)|(replace c:=jv 0 c;first|(replace c:=jv 1 c;refine jq (jrfa 1 1 false) ?_)|(replace c:=jv 2 c;refine jcg ?_)|(replace c:=jv 3 c;refine jcF ?_)|(replace c:=jv 4 c;refine jbn ?_)|(replace c:=jv 5 c;refine jq jrpF ?_)|(replace c:=jv 6 c;refine jys ?_)|(replace c:=jv 7 c;refine jq jri ?_)|(replace c:=jv 8 c;refine jyq jrc ?_)|(replace c:=jv 9 c;refine jq jrx ?_)|(replace c:=jv 0 c;first|(replace c:=jv 1 c;refine jq (jrfa 2 1 false) ?_)|(replace c:=jv 2 c;refine jte ?_)|(replace c:=jv 3 c;refine jtr ?_)|(replace c:=jv 4 c;refine jbx ?_)|(replace c:=jv 5 c;refine jbr ?_)|(replace c:=jv 6 c;refine jX ?_)|(replace c:=jv 7 c;refine jR ?_)|(replace c:=jv 8 c;refine jrt (hv:=?_))|(replace c:=jv 9 c;refine jcT ?_)|(replace c:=jv 0 c;first|(replace c:=jv 1 c;refine jyo jrdo ?_)|(replace c:=jv 2 c;refine jyq jrl ?_)|(replace c:=jv 3 c;refine jyq jra ?_)|(replace c:=jv 4 c;refine jq jrls ?_)|(replace c:=jv 5 c;refine jyq jrnc ?_)|(replace c:=jv 6 c;refine jq jrcs ?_)|(replace c:=jv 7 c;refine jyq jrdr ?_)|(replace c:=jv 8 c;refine jbx2 ?_)|(replace c:=jv 9 c;refine jyq jri ?_)|(replace c:=jv 0 c;first|(replace c:=jv 1 c;refine jyq jrn ?_)|(replace c:=jv 2 c;refine jq jrcb ?_)|(replace c:=jv 3 c;refine jyq jrpF ?_)|(replace c:=jv 4 c;refine jzq jrm ?_)|(replace c:=jv 5 c;refine jq jre ?_)|(replace c:=jv 6 c;refine jq jrq ?_)|(replace c:=jv 7 c;refine jzd ?_)|(replace c:=jv 8 c;refine jq (jrv .i64 .u8) ?_)|(replace c:=jv 9 c;refine jyq (jrfa 0 1 false) ?_)|(replace c:=jv 0 c;first|(replace c:=jv 1 c;refine jq jrr ?_)|(replace c:=jv 2 c;refine jq (jri (i:=0)) ?_)|(replace c:=jv 3 c;refine jyq jrpT ?_)|(replace c:=jv 4 c;refine jyq (jrde 3) ?_)|(replace c:=jv 5 c;refine jq (jrfa 3 1 false) ?_)|(replace c:=jv 6 c;refine jq (jrfa 5 1 false) ?_)|(replace c:=jv 7 c;refine jq (jrfa 4 1 false) ?_)|(replace c:=jv 8 c;refine jyq (jrfa 1 1 false) ?_)|(replace c:=jv 9 c;refine jzq jrnc ?_)|(replace c:=jv 0 c;first|(replace c:=jv 1 c;refine jzq (jrfa 0 1 false) ?_)|(replace c:=jv 2 c;refine jq (jrfa 6 1 false) ?_)|(replace c:=jv 3 c;refine jyq jrbs ?_)|(replace c:=jv 4 c;refine jzs ?_)|(replace c:=jv 5 c;refine jzo jrdo ?_)|(replace c:=jv 6 c;refine jzq (jrfa 1 1 false) ?_)|(replace c:=jv 7 c;refine jq (jrv8 .i64) ?_)|(replace c:=jv 8 c;refine jq jrix ?_)|(replace c:=jv 9 c;refine jq jrst ?_)|(replace c:=jv 0 c;first|(replace c:=jv 1 c;refine jq jrpT ?_))))))))))
 exact b.v):A:=h v ⟨b⟩
theorem jU (n:Nat) {A B:Prop} (b:B) (h:JV n→JB B→A:=by intro c b;exact jUV c b.v):A:=h trivial ⟨b⟩
section
variable {P:Program} {G:Gh} {ops:Array Oper} {o:Oper} {s:AS} {r:List Oper} {K:AS→Prop} {R:Exit→AS→Prop} {x y:Code} {env:List (Nat×CV)} {b0:Nat→CV} {H:List (Option Nat×Res)}
theorem jF1 (n:Nat) {f:FuncId} {xs:Array Operand} {ats:Array TypeId} {args:List CV} {m:CV} {d:Nat} (hA:ACp G.gs P f args m) {B:Prop} (b:B) (ho:o.op=.call ⟨.value (.func f),xs,ats⟩:=by exact rfl) (hc:calleeB P f=true:=by kernel_rfl) (he:SEL G ⟨env,b0,H⟩ xs.toList args:=by (repeat (first|exact .nil|refine .cons (by first|exact se rfl cZ|exact se rfl CEnt.nil|exact se rfl cN|exact se rfl (cO rfl)|exact se rfl cP|exact se_nilO rfl|exact se rfl CEnt.fn0|exact se rfl jag|exact se_frzB _ rfl rfl rfl (by simp) (fun _ _=>cZ)) ?_))) (hd:o.dst=some d:=by exact rfl) (hN:Nat.blt d G.N=true:=by exact rfl) (hw:Wanted G ops o ⟨env,b0,H⟩ true:=by first|exact wanted_none rfl|exact wanted_is rfl rfl rfl rfl true rfl) (h:JV n→JB B→ASeq P G ops r ⟨(d,m)::env,b0,H⟩ K:=by intro c b;exact jUV c b.v):ASeq P G ops (o::r) ⟨env,b0,H⟩ K:=jqe (jecP hA (h trivial ⟨b⟩) ho hc he hd hN) hw
theorem jF2 (n i:Nat) {f:FuncId} {xs:Array Operand} {ats:Array TypeId} {args:List CV} {m:CV} {d:Nat} {x0 x:Option Nat×Res} (hA:AC G.gs P f [x0] args fun r H'=>r=m∧H'=[x]) {B:Prop} (b:B) (hi:H[i]?=some x0:=by exact rfl) (ho:o.op=.call ⟨.value (.func f),xs,ats⟩:=by exact rfl) (hc:calleeB P f=true:=by kernel_rfl) (he:SEL G ⟨env,b0,H⟩ xs.toList args:=by (repeat (first|exact .nil|refine .cons (by first|exact se rfl cZ|exact se rfl CEnt.nil|exact se rfl cN|exact se rfl (cO rfl)|exact se rfl cP|exact se_nilO rfl|exact se rfl CEnt.fn0|exact se rfl jag|exact se_frzB _ rfl rfl rfl (by simp) (fun _ _=>cZ)) ?_))) (hd:o.dst=some d:=by exact rfl) (hN:Nat.blt d G.N=true:=by exact rfl) (hw:Wanted G ops o ⟨env,b0,H⟩ true:=by first|exact wanted_none rfl|exact wanted_is rfl rfl rfl rfl true rfl) (h:JV n→JB B→ASeq P G ops r ⟨(d,m)::env,b0,H.set i x⟩ K:=by intro c b;exact jUV c b.v):ASeq P G ops (o::r) ⟨env,b0,H⟩ K:=jqm (jmcE i hA (h trivial ⟨b⟩) hi ho hc he hd hN) hw
theorem jF3 (n1 n2:Nat) {d:Nat} {p n B1 B2:Prop} (ht:p→B1) (hf:n→B2) (hl:jCondPN (look env b0 d) p n:=by first|exact jcpD rfl|exact jcpB rfl) (hN:Nat.blt d G.N=true:=by exact rfl) (h1:p→JV n1→JB B1→ACode P G x ⟨(d,.c (.bool true))::env,b0,H⟩ R:=by intro _ c b;exact jUV c b.v) (h2:n→JV n2→JB B2→ACode P G y ⟨(d,.c (.bool false))::env,b0,H⟩ R:=by intro _ c b;exact jUV c b.v):ACode P G (.cond (.tmp d) x y) ⟨env,b0,H⟩ R:=jcc (fun q=>h1 q trivial ⟨ht q⟩) (fun q=>h2 q trivial ⟨hf q⟩) hl hN
theorem jF4 (n1 n2 d:Nat) {p n B1 B2:Prop} (ht:p→B1) (hf:n→B2) (hl:jCondPN (look env b0 d) p n:=by first|exact jcpD rfl|exact jcpB rfl) (hN:Nat.blt d G.N=true:=by exact rfl) (h1:p→JV n1→JB B1→ASeq P G ops r ⟨(d,.c (.bool true))::env,b0,H⟩ K:=by intro _ c b;exact jUV c b.v) (h2:n→JV n2→JB B2→ASeq P G ops r ⟨(d,.c (.bool false))::env,b0,H⟩ K:=by intro _ c b;exact jUV c b.v):ASeq P G ops r ⟨env,b0,H⟩ K:=jqsp d (fun q=>h1 q trivial ⟨ht q⟩) (fun q=>h2 q trivial ⟨hf q⟩) hl hN
theorem jF5 (k n:Nat) {gs:List Nat} {f:FuncId} {fn:Func} {c:Code} {args:List CV} {Q:CV→List (Option Nat×Res)→Prop} (hf:P.funcs[f]?=some fn) {B:List Addr→World→(Nat→Prop)→(Nat→Prop)→Prop} (b:∀ al w0 F0 St0,B al w0 F0 St0) (hb:fn.body=some c:=by exact rfl) (hn:fn.ntmps=n:=by exact rfl) (hle:Nat.ble args.length n=true:=by exact rfl) (h:∀ al w0 F0 St0,JV k→JB (B al w0 F0 St0)→ACode P ⟨gs,al,w0,F0,St0,n,none,false⟩ c ⟨env0 0 args,fun _=>.top,H⟩ (bodyR P ⟨gs,al,w0,F0,St0,n,none,false⟩ fn Q):=by intro _ _ _ _ c b;exact jUV c b.v):AC gs P f H args Q:=ac_oF n hf (fun _ _ _ _=>h _ _ _ _ trivial ⟨b _ _ _ _⟩) hb hn hle
theorem jF6 (k n m:Nat) {e t:TypeId} {z:Value} {len:Nat} {parts:Array (Nat×Operand)} {l:List CV} {d:Nat} (hz:(P.info? e).map (·.zero)=some (some z)) {B:Option Nat→Prop} (b:∀ g,B g) (ho:o.op=.buildSlice t len parts:=by exact rfl) (h1:P.underlying t=some (.slice e):=by kernel_rfl) (h5:(P.info? e).map (·.size)=some m:=by kernel_rfl) (hm:Nat.ble (len * m) 16777216=true:=by exact rfl) (hlen:Nat.ble len 16777216=true:=by exact rfl)
  (hf:fillC (fun i=>some (i * m,m)) ((List.range (len * m)).map fun i=>.c (z.cells[i % z.cells.size]!)) (parts.toList.map fun p=>(p.1,(⟨env,b0,H⟩:AS).eval p.2))=some l:=by exact rfl) (hn:l.length=n:=by exact rfl) (hle:n=len * m:=by exact rfl) (hd:o.dst=some d:=by exact rfl) (hN:Nat.blt d G.N=true:=by exact rfl) (hw:Wanted G ops o ⟨env,b0,H⟩ true:=by first|exact wanted_none rfl|exact wanted_is rfl rfl rfl rfl true rfl) (h:∀ g,JV k→JB (B g)→ASeq P G ops r ⟨(d,.os H.length g 0 len m)::env,b0,H++[(g,.blk n (fl l))]⟩ K:=by intro _ c b;exact jUV c b.v):ASeq P G ops (o::r) ⟨env,b0,H⟩ K:=jqe (jebl n m hz (fun g=>h g trivial ⟨b g⟩) ho h1 h5 hm hlen hf hn hle hd hN) hw
theorem jF7 (k m:Nat) {t:TypeId} {p q:Operand} {i off n:Nat} {g:Option Nat} {f:Nat→CV} {c:CV} {l:List CV} {B:Prop} (b:B) (ho:o.op=.store t p q:=by exact rfl) (hx:(⟨env,b0,H⟩:AS).eval p=.op i g off:=by exact rfl) (hH:H[i]?=some (g,.blk n f):=by exact rfl) (hy:(⟨env,b0,H⟩:AS).eval q=c:=by first|exact jev_t rfl|exact jev_l rfl rfl rfl|exact jev_f rfl) (hl:cellsC c=some l:=by exact rfl) (hm:l.length=m:=by exact rfl) (h5:(P.info? t).map (·.size)=some m:=by kernel_rfl) (hleaf:l.all leafC=true:=by exact rfl) (hn:off+m≤n:=by first|decide|omega|(dsimp only at *;omega)) (hd:o.dst=none:=by exact rfl) (hw:Wanted G ops o ⟨env,b0,H⟩ true:=by first|exact wanted_none rfl|exact wanted_is rfl rfl rfl rfl true rfl) (h:JV k→JB B→ASeq P G ops r ⟨env,b0,H.set i (g,.blk n (updF f off l))⟩ K:=by intro c b;exact jUV c b.v):ASeq P G ops (o::r) ⟨env,b0,H⟩ K:=jqm (jmst m (h trivial ⟨b⟩) ho hx hH hy hl hm h5 hleaf hn hd) hw
end
end
section
variable {gs:List Nat} [Ok9 gs]

theorem clone8_ac {gs:List Nat} (l:List UInt8) (hl:l.length≤100000000000):ACp gs Tryz.prog 75 [bsC l] (bsC l):=by
 refine jF5 167516 8 Tryz.func75 fun al w0 F0 St0=>?_;refine seq_eqNil (wanted_none rfl) rfl rfl rfl Tryz.underlying58 rfl rfl (fun h357=>?_) ?_
 ·refine jU 51690005 ?_
  refine jR (jtr (jrt (hv:=CEnt.nilS' h357)))
 ·refine jU 68103005 ?_;refine jF6 1 0 1 zr5 fun p1=>?_
  refine jqm (jab (l:=[]) fun p2=>?_)
  refine jU 51 ?_;refine jE (freeze 0 rfl) ?_;refine jE (thawB 2 ([]++l) rfl rfl (by rfl) rfl) ?_
  refine jR (jrt (hv:=CEnt.bs (List.nil_append l)))
theorem isNaN8_ac {gs:List Nat} (c:UInt8):ACp gs Tryz.prog 197 [.c (.int .u8 (c.toNat:Nat))] (.c (.bool false)):=by
 refine jF5 512116516 6 Tryz.func197 fun al w0 F0 St0=>?_
 refine jR (jrt (hv:=cB (by simp)))
def cmp8 (a b:UInt8):Int:=if a.toNat<b.toNat then -1 else if b.toNat<a.toNat then 1 else 0
theorem cmp8_ac {gs:List Nat} (a b:UInt8):ACp gs Tryz.prog 183 [.c (.int .u8 (a.toNat:Nat)),.c (.int .u8 (b.toNat:Nat))] (.c (.int .i64 (cmp8 a b))):=by
 refine jF5 16516 20 Tryz.func183 fun al w0 F0 St0=>?_;refine jF1 1651 (isNaN8_ac a) ?_;refine jF1 516751 (isNaN8_ac b) ?_;refine jF3 5167 5167810 (fun h43=>?_) fun h43=>?_
 ·refine jF3 8000300030007000516 800030007000516810 (fun h44=>?_) fun h44=>?_
  ·(exfalso;simp at *;done)
  (exfalso;simp at *;done)
 refine jF3 800030007000516 521167810 (fun h49=>?_) fun h49=>?_
 ·(exfalso;simp at *;done)
 refine jF3 800030007000516 521167810 (fun h52=>?_) fun h52=>?_
 ·(refine cI ?_;unfold cmp8;split <;> omega)
 refine jF3 800030007000516 80007000516810 (fun h55=>?_) fun h55=>?_
 ·(refine cI ?_;unfold cmp8;split <;> omega)
 (refine cI ?_;unfold cmp8;split <;> omega)
def cmpL:List UInt8→List UInt8→Int
 | [],[]=>0
 | [],_::_=>-1
 | _::_,[]=>1
 | a::l,b::r=>if cmp8 a b≠0 then cmp8 a b else cmpL l r
theorem cmpL_lt:∀ l r:List UInt8,decide (cmpL l r<0)=Op.bytesLess l r
 | [],[]=>by simp [cmpL,Op.bytesLess]
 | [],_::_=>by simp [cmpL,Op.bytesLess]
 | _::_,[]=>by simp [cmpL,Op.bytesLess]
 | a::l,b::r=>by
  have ih:=cmpL_lt l r
  rw [cmpL,Op.bytesLess,← ih]
  have h1:(a<b)↔a.toNat<b.toNat:=UInt8.lt_iff_toNat_lt
  have h2:(a=b)↔a.toNat=b.toNat:=UInt8.toNat_inj.symm
  rw [Bool.eq_iff_iff]
  simp only [decide_eq_true_eq,Bool.or_eq_true,Bool.and_eq_true,beq_iff_eq,h1,h2]
  by_cases h3:a.toNat<b.toNat
  ·simp [cmp8,h3]
  ·by_cases h4:b.toNat<a.toNat
   ·simp [cmp8,h3,h4]
    omega
   ·have h5:a.toNat=b.toNat:=by omega
    simp [cmp8,h5]
theorem cmpL_drop {l r:List UInt8} {i:Nat} (h1:i<l.length) (h2:i<r.length):cmpL (l.drop i) (r.drop i)=if cmp8 (l.getD i 0) (r.getD i 0)≠0 then cmp8 (l.getD i 0) (r.getD i 0) else cmpL (l.drop (i+1)) (r.drop (i+1)):=by
 grind [List.drop_eq_getElem_cons,cmpL]
theorem compare8_ac {gs:List Nat} (l r:List UInt8):ACp gs Tryz.prog 166 [bsC l,bsC r] (.c (.int .i64 (cmpL l r))):=by
 refine ac_len 0 rfl fun hlen=>?_;refine jF5 20513167516 36 Tryz.func166 fun al w0 F0 St0=>?_
 refine jlp (α:=Nat) [4,8,11,30] (fun i=>[(11,.c (.int .i64 (i:Nat)))]) (fun _=>[]) (fun i=>i≤l.length∧i≤r.length∧cmpL (l.drop i) (r.drop i)=cmpL l r) (fun i=>l.length-i) 0 (h0:=⟨by omega,by omega,rfl⟩) (hr:=?_)
 rintro i ⟨hi,hj,he⟩
 refine jU 7526 ?_;refine jF3 52311675116070016207810 5231316784000200020006000 (fun h58=>?_) fun h58=>?_
 rotate_left
 ·refine jF3 800030007000516 80007000516810 (fun h67=>?_) fun h67=>?_
  ·refine cI ?_
   have h1:l.drop i=[]:=List.drop_eq_nil_of_le (by omega)
   rw [← he,h1]
   (rw [List.drop_eq_getElem_cons (show i<r.length by omega)];rfl)
  refine cI ?_
  have h1:l.drop i=[]:=List.drop_eq_nil_of_le (by omega)
  rw [← he,h1]
  (rw [List.drop_eq_nil_of_le (show r.length≤i by omega)];rfl)
 refine jF3 80003000500030003000500030007000516 1165160700116810 (fun h59=>?_) fun h59=>?_
 ·refine cI ?_
  have:r.drop i=[]:=List.drop_eq_nil_of_le (by omega)
  rw [← he,this,List.drop_eq_getElem_cons (by omega)]
  rfl
 refine jF1 521651 (cmp8_ac (l.getD i 0) (r.getD i 0)) ?_;refine jF3 80003000500030003000500070005116 8519200840010 (fun h63=>?_) fun h63=>?_
 ·refine cI ?_
  grind [cmpL_drop]
 exact jlend (i+1) (h1:=⟨by omega,by omega,by grind [cmpL_drop]⟩)

def idxI (l:List Int) (x:Int):Int:=if x ∈ l then (l.idxOf x:Nat) else -1
theorem index64_ac {gs:List Nat} (l:List Int) (x:Int):ACp gs Tryz.prog 184 [isC l,.c (.int .i64 x)] (.c (.int .i64 (idxI l x))):=by
 refine ac_len 0 rfl fun hlen=>?_;refine jF5 20513167516 19 Tryz.func184 fun al w0 F0 St0=>?_
 refine jlp (α:=Nat) [4,5,8,18] (fun i=>[(8,.c (.int .i64 (i:Nat)))]) (fun _=>[]) (fun i=>i≤l.length∧x ∉ l.take i) (fun i=>l.length-i) 0 (h0:=⟨by omega,by simp⟩) (hr:=?_)
 rintro i ⟨hi,he⟩
 refine jU 7526 ?_;refine jF3 526070011165116207810 8000700051684000200020006000 (fun h97=>?_) fun h97=>?_
 rotate_left
 ·refine cI ?_
  grind [idxI]
 refine jF3 80003000500030003000500070005116 8519200840010 (fun h98=>?_) fun h98=>?_
 rotate_left
 ·refine jlend (i+1) (h1:=?_)
  ·exact ⟨by omega,fun hm=>by
    rw [List.take_succ_eq_append_getElem (by omega)] at hm
    rcases List.mem_append.1 hm with h|h
    ·exact he h
    ·have e:l.getD i 0=l[i]:=by simp [List.getD,show i<l.length by omega]
     simp at h
     rw [e] at h98
     exact h98 h⟩
 refine cI ?_
 have hlt:i<l.length:=by omega
 have e:l.getD i 0=l[i]:=by simp [List.getD,hlt]
 have hm:x ∈ l:=by rw [h98,e];exact List.getElem_mem hlt
 have hx:l.idxOf x=i:=by
  have e2:l=l.take i++l[i]::l.drop (i+1):=by rw [← List.drop_eq_getElem_cons hlt,List.take_append_drop]
  rw [e2,List.idxOf_append,if_neg he,h98,e]
  rw [← List.drop_eq_getElem_cons hlt,List.drop_eq_getElem_cons hlt,List.idxOf_cons_self,List.length_take]
  omega
 unfold idxI
 rw [if_pos hm,hx]
theorem contains64_ac {gs:List Nat} (l:List Int) (x:Int):ACp gs Tryz.prog 175 [isC l,.c (.int .i64 x)] (.c (.bool (decide (x ∈ l)))):=by
 refine jF5 116516 9 Tryz.func175 fun al w0 F0 St0=>?_;refine jF1 80007000512 (index64_ac l x) ?_;refine cB ?_
 unfold idxI
 split <;> simp_all <;> omega

def revJ (l:List UInt8) (i:Nat):List UInt8:=(List.range l.length).map fun j=>if j<i∨l.length≤j+i then l.reverse.getD j 0 else l.getD j 0
theorem revJ_get {l:List UInt8} {i j:Nat} (h:j<l.length):(revJ l i).getD j 0=if j<i∨l.length≤j+i then l.reverse.getD j 0 else l.getD j 0:=by simp [revJ,List.getD,h]
theorem rev_get {l:List UInt8} {j:Nat} (h:j<l.length):l.reverse.getD j 0=l.getD (l.length-1-j) 0:=by
 grind
theorem revJ_all {l:List UInt8} {i:Nat} (h:l.length≤2 * i+1):revJ l i=l.reverse:=by
 apply List.ext_getElem
 ·simp [revJ]
 ·intro j h1 h2
  have hj:j<l.length:=by simpa using h2
  have e:=revJ_get (i:=i) hj
  grind
theorem revJ_zero (l:List UInt8):revJ l 0=l:=by
 apply List.ext_getElem
 ·simp [revJ]
 ·intro j h1 h2
  have e:=revJ_get (i:=0) h2
  grind
def OwnL (g:Option Nat) (l:List UInt8):CV→List (Option Nat×Res)→Prop:=fun r H'=>r=.c (.tuple #[])∧H'=[(g,.blk l.length (byF l))]
theorem reverse8_ac {gs:List Nat} (g:Option Nat) (l:List UInt8) (hl:l.length≤100000000000):AC gs Tryz.prog 134 [(g,.blk l.length (byF l))] [.os 0 g 0 l.length 1] (OwnL g l.reverse):=by
 refine jF5 205119316 28 Tryz.func134 fun al w0 F0 St0=>?_
 refine jlp (α:=Nat) [2,3,7,27] (fun i=>[(2,.c (.int .i64 (i:Nat))),(3,.c (.int .i64 ((l.length:Int)-1-i)))]) (fun i=>[(g,.blk l.length (byF (revJ l i)))]) (fun i=>2 * i≤l.length+1) (fun i=>l.length-i) 0 (hH:=.blk rfl (fun j hj=>by rw [revJ_zero];exact cZ) .nil) (hr:=?_)
 rintro i (hi:2 * i≤l.length+1)
 refine jU 521167 ?_;refine jF3 207810 4000200020006000 (fun h484=>?_) fun h484=>?_
 rotate_left
 ·exact end_own (.inr rfl) _ _ [0] (by decide) rfl (res_0 rfl) ⟨rfl,by show [(g,Res.blk l.length (byF (revJ l i)))]=_;rw [revJ_all (by omega),List.length_reverse]⟩
 refine jcdZ (oT [0,2,4,6,8,10,12,14,16,18,20,22,24,27,28,31] .done) ?_;refine jU 400000400000400000400000400000400000 ?_;refine jzq (jri (i:=(l.length-1-i)) (hz:=by omega)) ?_;refine jU 40000040000050000000 ?_;refine jzq (jri (i:=i) (hz:=by omega)) ?_;refine jzo jrdo ?_;refine jzq (jri (i:=i) (hz:=by omega)) ?_
 refine jzm (jmst 1 ?_)
 refine jzq (jri (i:=(l.length-1-i)) (hz:=by omega)) ?_
 refine jzm (jmst 1 ?_)
 refine jU 851191912008400700000 ?_
 refine jlend (i+1) (h7:=?_)
 ·exact .blk rfl (fun j hj=>by
   refine (CEnt.of_eq (updF_one _ _ _ j)).trans ?_
   have hj:j<l.length:=hj
   have e3:=revJ_get (i:=i+1) hj
   have ri:=@rev_get l i (by omega)
   have rj:=@rev_get l (l.length-1-i) (by omega)
   have ei:=@revJ_get l i i (by omega)
   have ej:=@revJ_get l i (l.length-1-i) (by omega)
   rw [if_neg (by omega)] at ei ej
   rw [show l.length-1-(l.length-1-i)=i by omega] at rj
   show CEnt (if j=_ then _ else updF (byF (revJ l i)) i [_] j) _
   rw [updF_one]
   unfold byF
   by_cases h1:j=l.length-1-i
   ·rw [if_pos h1]
    subst h1
    exact cI (by grind)
   ·rw [if_neg h1]
    by_cases h2:j=i
    ·rw [if_pos h2]
     subst h2
     exact cI (by simp_all)
    ·rw [if_neg h2]
     have e0:=revJ_get (i:=i) hj
     refine cI ?_
     rw [e0,e3]
     by_cases h3:j<i∨l.length≤j+i
     ·rw [if_pos h3,if_pos (by omega)]
     ·rw [if_neg h3,if_neg (by omega)]) .nil
end
section
def madeM (t:Int):Bool:=decide (t=48∨t=49∨(160≤t∧t<176))
def plainT:List Int:=[1,2,3,4,5,6,10,12,24]
def knownM (t:Int):Bool:=madeM t || decide ((1≤t∧t≤6)∨t=10∨t=12∨t=24)
theorem plain_known (t:Int):decide (t ∈ plainT)=decide ((1≤t∧t≤6)∨t=10∨t=12∨t=24):=by
 refine decide_eq_decide.2 ?_
 simp only [plainT,List.mem_cons,List.not_mem_nil,or_false]
 omega
def b8 (n:Nat):UInt8:=UInt8.ofNat n
theorem b8_toNat {n:Nat} (h:n<256):(b8 n).toNat=n:=by
 unfold b8
 simp_all
theorem b8_mod (n:Nat):(b8 n).toNat=n % 256:=by
 unfold b8
 rw [UInt8.toNat_ofNat']
def lenL (n:Nat):List UInt8 :=
 if n<128 then [b8 n] else if n<256 then [129,b8 n] else if n<65536 then [130,b8 (n / 256),b8 n]
 else if n<16777216 then [131,b8 (n / 65536),b8 (n / 256),b8 n] else [132,b8 (n / 16777216),b8 (n / 65536),b8 (n / 256),b8 n]
theorem lenL_bd (n:Nat):1≤(lenL n).length∧(lenL n).length≤5:=by
 unfold lenL
 grind
def putL (tag:Int) (body:List UInt8):List UInt8:=UInt8.ofNat tag.toNat::(lenL body.length++body)
def beN (l:List UInt8):Nat:=l.foldl (fun n c=>n * 256+c.toNat) 0
theorem beN_snoc (l:List UInt8) (c:UInt8):beN (l++[c])=beN l * 256+c.toNat:=by simp [beN]
theorem beN_take {l:List UInt8} {i:Nat} (h:i<l.length):beN (l.take (i+1))=beN (l.take i) * 256+(l.getD i 0).toNat:=by
 rw [List.take_succ_eq_append_getElem h,beN_snoc]
 simp [List.getD,h]
theorem beN_lt (l:List UInt8):beN l<256 ^ l.length:=by
 have key:∀ (r:List UInt8) (n k:Nat),n<256 ^ k→r.foldl (fun n c=>n * 256+c.toNat) n<256 ^ (k+r.length):=by
  intro r
  induction r with
  | nil=>simp_all
  | cons c r ih =>
   intro n k h
   have:=ih (n * 256+c.toNat) (k+1) (by have:=c.toNat_lt;omega)
   grind
 have:=key l 0 0 (by decide)
 simpa [beN] using this

structure Ms where
 e:Nat
 n:Nat
 rest:List UInt8
def measM (b:List UInt8):Ms :=
 if b.length=0 then ⟨2,0,[]⟩ else
 let c:=(b.getD 0 0).toNat
 let r:=b.drop 1
 if c≤127 then ⟨0,c,r⟩ else
 if c=128∨132<c then ⟨4,0,[]⟩ else
 if r.length<c-128 then ⟨2,0,[]⟩ else
 if beN (r.take (c-128))≤127∨(r.getD 0 0).toNat=0 then ⟨4,0,[]⟩ else ⟨0,beN (r.take (c-128)),r.drop (c-128)⟩
theorem measM_ne {b r:List UInt8} {c:Nat} (h:b.length≠0) (hc:c=(b.getD 0 0).toNat) (hr:r=b.drop 1):measM b=if c≤127 then ⟨0,c,r⟩ else
 if c=128∨132<c then ⟨4,0,[]⟩ else
 if r.length<c-128 then ⟨2,0,[]⟩ else
 if beN (r.take (c-128))≤127∨(r.getD 0 0).toNat=0 then ⟨4,0,[]⟩ else ⟨0,beN (r.take (c-128)),r.drop (c-128)⟩:=by
 grind [measM]
theorem measM_rest (b:List UInt8):(measM b).rest.length≤b.length-1∧((measM b).e≠0→(measM b).rest=[]∧(measM b).n=0)∧(measM b).e≤4:=by
 grind [measM]

structure Nx where
 e:Nat
 tag:Nat
 body:List UInt8
 rest:List UInt8
def nextM (b:List UInt8):Nx :=
 if b.length=0 then ⟨2,0,[],[]⟩ else
 if knownM ((b.getD 0 0).toNat:Nat)=false then ⟨5,0,[],[]⟩ else
 let m:=measM (b.drop 1)
 if m.e≠0 then ⟨m.e,0,[],[]⟩ else
 if 65530<m.n then ⟨3,0,[],[]⟩ else
 if m.rest.length<m.n then ⟨2,0,[],[]⟩ else ⟨0,(b.getD 0 0).toNat,m.rest.take m.n,m.rest.drop m.n⟩
theorem nextM_ne {b:List UInt8} {t:Nat} {m:Ms} (h:b.length≠0) (ht:t=(b.getD 0 0).toNat) (hk:knownM (t:Nat)=true) (hm:m=measM (b.drop 1)):nextM b=if m.e≠0 then ⟨m.e,0,[],[]⟩ else
 if 65530<m.n then ⟨3,0,[],[]⟩ else
 if m.rest.length<m.n then ⟨2,0,[],[]⟩ else ⟨0,t,m.rest.take m.n,m.rest.drop m.n⟩:=by
 grind [nextM]
theorem nextM_bd (b:List UInt8):(nextM b).e≤5∧(nextM b).tag≤255∧(nextM b).body.length≤65530∧(nextM b).body.length≤b.length∧(nextM b).rest.length≤b.length∧((nextM b).e=0→(nextM b).rest.length<b.length):=by
 unfold nextM
 split
 ·simp
 ·split
  ·simp
  ·dsimp only
   have hm:=measM_rest (b.drop 1)
   split
   ·grind
   ·split
    ·simp
    ·split
     ·simp
     ·have h8:=(b.getD 0 0).toNat_lt
      grind

def loopW (rec:Nat→List UInt8→Nat×Nat) (set:Bool) (lv:Nat):Nat→List UInt8→List UInt8→Nat→Nat×Nat
 | 0,_,_,dp=>(dp,0)
 | fuel+1,b,last,dp =>
  if b.length=0 then (dp,0) else
  if (nextM b).e≠0 then (0,(nextM b).e) else
  if lv≤1 then (0,6) else
  if (rec (nextM b).tag (nextM b).body).2≠0 then (0,(rec (nextM b).tag (nextM b).body).2) else
  if set=true∧Op.bytesLess (b.take (b.length-(nextM b).rest.length)) last=true then (0,7) else
  loopW rec set lv fuel (nextM b).rest (b.take (b.length-(nextM b).rest.length)) (max dp ((rec (nextM b).tag (nextM b).body).1+1))
def wholeM:Nat→Nat→List UInt8→Nat×Nat
 | 0,_,_=>(1,0)
 | lv+1,tag,body=>if madeM tag=false then (1,0) else loopW (wholeM lv) (decide (tag=49)) (lv+1) body.length body [] 1
theorem loopW_bd (rec:Nat→List UInt8→Nat×Nat) (set:Bool) (lv B:Nat) (hr:∀ t b,(rec t b).1≤B∧(rec t b).2≤7):∀ (fuel:Nat) (b last:List UInt8) (dp:Nat),dp≤B+1→(loopW rec set lv fuel b last dp).1≤B+1∧(loopW rec set lv fuel b last dp).2≤7
 | 0,_,_,dp,h=>⟨h,by simp [loopW]⟩
 | fuel+1,b,last,dp,h=>by
  have h1:=nextM_bd b
  have h2:=hr (nextM b).tag (nextM b).body
  unfold loopW
  split
  ·exact ⟨h,by simp⟩
  ·split
   ·omega
   ·split
    ·omega
    ·split
     ·omega
     ·split
      ·omega
      ·exact loopW_bd rec set lv B hr fuel _ _ _ (by omega)
theorem wholeM_bd:∀ (lv tag:Nat) (body:List UInt8),(wholeM lv tag body).1≤lv+1∧(wholeM lv tag body).2≤7
 | 0,_,_=>by simp [wholeM]
 | lv+1,tag,body=>by
  unfold wholeM
  split
  ·exact ⟨by simp,by simp⟩
  ·exact loopW_bd _ _ _ _ (fun t b=>wholeM_bd lv t b) _ _ _ _ (by omega)
def depthM (b:List UInt8):Nat×Nat :=
 if 65536<b.length then (0,3) else
 if (nextM b).e≠0 then (0,(nextM b).e) else
 if 0<(nextM b).rest.length then (0,4) else wholeM 16 (nextM b).tag (nextM b).body
theorem depthM_bd (b:List UInt8):(depthM b).1≤17∧(depthM b).2≤7:=by
 grind [nextM_bd,wholeM_bd,depthM]

theorem meas_put {n:Nat} (r:List UInt8) (h:n<4294967296):measM (lenL n++r)=⟨0,n,r⟩:=by
 unfold lenL
 split
 ·grind [measM,b8_toNat]
 ·split
  ·rename_i h1 h2
   simp [measM,b8_toNat h2,beN]
   omega
  ·split
   ·rename_i h1 h2 h3
    simp [measM,b8_mod,beN]
    grind
   ·split
    ·rename_i h1 h2 h3 h4
     simp [measM,b8_mod,beN]
     grind
    ·rename_i h1 h2 h3 h4
     simp [measM,b8_mod,beN]
     grind
theorem next_put {tag:Int} {body r:List UInt8} (hk:knownM tag=true) (hb:body.length≤65530):nextM (putL tag body++r)=⟨0,tag.toNat,body,r⟩:=by
 have ht:0≤tag∧tag<256:=by
  unfold knownM madeM at hk
  simp at hk
  omega
 have e0:(UInt8.ofNat tag.toNat).toNat=tag.toNat:=b8_toNat (n:=tag.toNat) (by omega)
 grind [meas_put,nextM,putL]
end
end Am
end Go.Proofs.YtnijncmifjnifaaGreatDoor
namespace Go.Proofs.YtnijncmifjnifaaGreatDoor
set_option linter.unusedVariables false
open Go.RowKit Go.Extern.Stop Go.Stop Go.Extern

theorem isTypeOf (v:Value) (w:World):(callFunc 73 #[.iface 252 v]).run Tryz.prog w=.ok (.value (.iface 167 (.agg #[.pointer (some ⟨31,252,none⟩)]))) w:=by kernel_rfl
theorem isComparable (w:World):(callFunc 223 #[.agg #[.pointer (some ⟨31,252,none⟩)]]).run Tryz.prog w=.ok (.value (.bool true)) w:=by kernel_rfl
theorem isMethodComparable (v : Value) (w : World) : (Go.method 388 167 v "Comparable").run Tryz.prog w = .ok (223, v) w := by kernel_rfl
theorem isComp:(Tryz.prog.info? 252).map (·.comparable)=some true:=by kernel_rfl
theorem isSize:(Tryz.prog.info? 276).map (·.size)=some 1:=by kernel_rfl
theorem noIsE (v:Value) (xT:TypeId) (w:World):(Instr.typeAssert (.iface 252 v) xT 169 true).run Tryz.prog w=.ok (.tuple #[.nilIface,.bool false]) w:=run_typeAssert_lacksB Tryz.underlying169 (by kernel_rfl) (by kernel_rfl) v xT w
theorem noUnwrapE (v:Value) (xT:TypeId) (w:World):(Instr.typeAssert (.iface 252 v) xT 172 true).run Tryz.prog w=.ok (.tuple #[.nilIface,.bool false]) w:=run_typeAssert_lacksB Tryz.underlying172 (by kernel_rfl) (by kernel_rfl) v xT w
theorem noUnwrapsE (v:Value) (xT:TypeId) (w:World):(Instr.typeAssert (.iface 252 v) xT 173 true).run Tryz.prog w=.ok (.tuple #[.nilIface,.bool false]) w:=run_typeAssert_lacksB Tryz.underlying173 (by kernel_rfl) (by kernel_rfl) v xT w

set_option maxHeartbeats 400000 in
theorem is_same (a:Addr) (w:World) :
  Calls Tryz.prog 40 #[.iface 252 (.pointer (some a)),.iface 252 (.pointer (some a))] w fun e w'=>e=.returned (.bool true)∧w=w':=by
 obtain ⟨i,hi,hcmp⟩:=Option.map_eq_some_iff.1 isComp
 obtain ⟨j,hj,hjs⟩:=Option.map_eq_some_iff.1 isSize
 have tT:=isTypeOf
 have cT:=isComparable
 have mR:=isMethodComparable
 have heq:=run_eql_iface_ptr_same (P:=Tryz.prog) w a Tryz.underlying37 Tryz.underlying252 hi hcmp hj
 go_enter Tryz.func40,Tryz.ntmps40
 go_wp2
 refine wp_loop_rounds 1 ?_
 rw [rounds_succ]
 go_wp2
 go_ret
 exact ⟨rfl,rfl⟩

set_option maxHeartbeats 400000 in
theorem is_other (a b:Addr) (ca cb:Array Value) (ta tb:TypeId) (w:World) (hne:a≠b) (ha:w.heap[a.block]?=some (.cells ca ta (0,0))) (hb:w.heap[b.block]?=some (.cells cb tb (0,0))) :
  Calls Tryz.prog 40 #[.iface 252 (.pointer (some a)),.iface 252 (.pointer (some b))] w fun e w'=>e=.returned (.bool false)∧w=w':=by
 obtain ⟨i,hi,hcmp⟩:=Option.map_eq_some_iff.1 isComp
 obtain ⟨j,hj,hjs⟩:=Option.map_eq_some_iff.1 isSize
 have tT:=isTypeOf
 have cT:=isComparable
 have mR:=isMethodComparable
 have nE:=noIsE
 have uE:=noUnwrapE
 have vE:=noUnwrapsE
 have heq:=run_eql_iface_ptr_other (P:=Tryz.prog) w Tryz.underlying37 Tryz.underlying252 hi hcmp hj (by rw [hjs];decide) hne ha hb
 go_enter Tryz.func40,Tryz.ntmps40
 go_wp2
 refine wp_loop_rounds 1 ?_
 rw [rounds_succ]
 go_wp2
 go_ret
 exact ⟨rfl,rfl⟩

theorem is_ev {w:World} {al:List Addr} (h:Sent w al) (m k:Nat) (hm0:m≠0) (hm:m≤28) (hk:k<28) :
  Calls Tryz.prog 40 #[ev al m,ev al (k+1)] w fun e w'=>e=.returned (.bool (decide (m=k+1)))∧w=w':=by
 have hl:al.length=28:=h.len.trans (by rw [OkG.eq];rfl)
 obtain ⟨a,ha⟩:∃ a,al[m-1]?=some a:=⟨al[m-1],List.getElem?_eq_getElem (by omega)⟩
 obtain ⟨b,hb⟩:∃ b,al[k]?=some b:=⟨al[k],List.getElem?_eq_getElem (by omega)⟩
 have e1:ev al m=.iface 252 (.pointer (some a)):=by simp [ev,hm0,ha]
 have e2:ev al (k+1)=.iface 252 (.pointer (some b)):=by simp [ev,hb]
 rw [e1,e2]
 by_cases hmk:m=k+1
 ·subst hmk
  simp only [Nat.add_sub_cancel] at ha
  obtain rfl:=Option.some.inj (ha.symm.trans hb)
  simp only [decide_true]
  exact is_same a w
 ·have hne:a≠b:=by
   intro e
   subst e
   have all:∀ i,i<28→((errG gs)[i]?).any (fun g=>(lst gs).contains g)=true:=by decide
   have get:∀ i,i<28→∃ g,(errG gs)[i]?=some g∧g ∈ lst gs:=fun i hi=>by
    grind
   obtain ⟨g1,k1,k2⟩:=get (m-1) (by omega)
   obtain ⟨g2,k3,k4⟩:=get k hk
   have:=h.nd (m-1) k g1 g2 k1 k2 k3 k4 (ha.trans hb.symm)
   omega
  simp only [hmk,decide_false]
  obtain ⟨ca,ta,h1⟩:=h.row a (List.mem_of_getElem? ha)
  obtain ⟨cb,tb,h2⟩:=h.row b (List.mem_of_getElem? hb)
  exact is_other a b ca cb ta tb w hne h1 h2
end Go.Proofs.YtnijncmifjnifaaGreatDoor
namespace Go.Proofs.YtnijncmifjnifaaGreatDoor
set_option linter.unusedVariables false
open Go.RowKit

def evs (al:List Addr):Array Value:=#[ev al 1,ev al 2,ev al 3,ev al 4,ev al 5,ev al 6,ev al 7,ev al 8,ev al 9,ev al 10,ev al 11,ev al 12,ev al 13,ev al 14,ev al 15,ev al 16,ev al 17,ev al 18,ev al 19,ev al 20,ev al 21,ev al 22,ev al 23,ev al 24,ev al 25,ev al 26,ev al 27,ev al 28]
theorem evs_get (al:List Addr) (k:Nat) (hk:k<28):(evs al)[k]?=some (ev al (k+1)):=by
 have:∀ k,k<28→(evs al)[k]?=some (ev al (k+1)):=by
  intro k hk
  match k,hk with
  | 0,_=>rfl
  | 1,_=>rfl
  | 2,_=>rfl
  | 3,_=>rfl
  | 4,_=>rfl
  | 5,_=>rfl
  | 6,_=>rfl
  | 7,_=>rfl
  | 8,_=>rfl
  | 9,_=>rfl
  | 10,_=>rfl
  | 11,_=>rfl
  | 12,_=>rfl
  | 13,_=>rfl
  | 14,_=>rfl
  | 15,_=>rfl
  | 16,_=>rfl
  | 17,_=>rfl
  | 18,_=>rfl
  | 19,_=>rfl
  | 20,_=>rfl
  | 21,_=>rfl
  | 22,_=>rfl
  | 23,_=>rfl
  | 24,_=>rfl
  | 25,_=>rfl
  | 26,_=>rfl
  | 27,_=>rfl
  | k+28,h=>omega
 exact this k hk

set_option maxRecDepth 100000 in
set_option maxHeartbeats 400000 in
theorem num_any {w:World} {al:List Addr} (h:Sent w al) (m:Nat) (hm:m≤28) :
  Calls Tryz.prog 14 #[ev al m] w fun e w'=>e=.returned (.int .i64 m)∧Below w.heap.size w w':=by
 by_cases h0:m=0
 ·subst h0
  have e0:decide ((0:Nat)=0)=true:=rfl
  go_enter Tryz.func14,Tryz.ntmps14
  go_wp2
  go_ret
  exact ⟨rfl,Below.refl _ _⟩
 ·have hd:decide (m=0)=false:=by simpa using h0
  have g0:w.cell? ⟨2,0,none⟩=some (ev al 1):=h.var 0 _ rfl (by decide)
  have g1:w.cell? ⟨3,0,none⟩=some (ev al 2):=h.var 1 _ rfl (by decide)
  have g2:w.cell? ⟨4,0,none⟩=some (ev al 3):=h.var 2 _ rfl (by decide)
  have g3:w.cell? ⟨5,0,none⟩=some (ev al 4):=h.var 3 _ rfl (by decide)
  have g4:w.cell? ⟨6,0,none⟩=some (ev al 5):=h.var 4 _ rfl (by decide)
  have g5:w.cell? ⟨7,0,none⟩=some (ev al 6):=h.var 5 _ rfl (by decide)
  have g6:w.cell? ⟨8,0,none⟩=some (ev al 7):=h.var 6 _ rfl (by decide)
  have g7:w.cell? ⟨9,0,none⟩=some (ev al 8):=h.var 7 _ rfl (by decide)
  have g8:w.cell? ⟨10,0,none⟩=some (ev al 9):=h.var 8 _ rfl (by decide)
  have g9:w.cell? ⟨11,0,none⟩=some (ev al 10):=h.var 9 _ rfl (by decide)
  have g10:w.cell? ⟨12,0,none⟩=some (ev al 11):=h.var 10 _ rfl (by decide)
  have g11:w.cell? ⟨13,0,none⟩=some (ev al 12):=h.var 11 _ rfl (by decide)
  have g12:w.cell? ⟨14,0,none⟩=some (ev al 13):=h.var 12 _ rfl (by decide)
  have g13:w.cell? ⟨15,0,none⟩=some (ev al 14):=h.var 13 _ rfl (by decide)
  have g14:w.cell? ⟨16,0,none⟩=some (ev al 15):=h.var 14 _ rfl (by decide)
  have g15:w.cell? ⟨17,0,none⟩=some (ev al 16):=h.var 15 _ rfl (by decide)
  have g16:w.cell? ⟨18,0,none⟩=some (ev al 17):=h.var 16 _ rfl (by decide)
  have g17:w.cell? ⟨1,0,none⟩=some (ev al 18):=h.var 17 _ rfl (by decide)
  have g18:w.cell? ⟨0,0,none⟩=some (ev al 19):=h.var 18 _ rfl (by decide)
  have g19:w.cell? ⟨19,0,none⟩=some (ev al 20):=h.var 19 _ rfl (by decide)
  have g20:w.cell? ⟨20,0,none⟩=some (ev al 21):=h.var 20 _ rfl (by decide)
  have g21:w.cell? ⟨21,0,none⟩=some (ev al 22):=h.var 21 _ rfl (by decide)
  have g22:w.cell? ⟨22,0,none⟩=some (ev al 23):=h.var 22 _ rfl (by decide)
  have g23:w.cell? ⟨23,0,none⟩=some (ev al 24):=h.var 23 _ rfl (by decide)
  have g24:w.cell? ⟨24,0,none⟩=some (ev al 25):=h.var 24 _ rfl (by decide)
  have g25:w.cell? ⟨25,0,none⟩=some (ev al 26):=h.var 25 _ rfl (by decide)
  have g26:w.cell? ⟨26,0,none⟩=some (ev al 27):=h.var 26 _ rfl (by decide)
  have g27:w.cell? ⟨27,0,none⟩=some (ev al 28):=h.var 27 _ rfl (by decide)
  have HB:Hid (Below w.heap.size w (w.alloc (.cells (evs al) 37))):=(Below.refl _ _).alloc (Nat.le_refl _) _
  have HS:Hid (Sent (w.alloc (.cells (evs al) 37)) al):=h.below HB.out
  have HC:Hid (∀ k,k<28→(w.alloc (.cells (evs al) 37)).cell? ⟨w.heap.size,k,none⟩=some (ev al (k+1))):=fun k hk=>by
   rw [World.cell?_alloc_mark]
   exact evs_get al k hk
  clear h
  go_enter Tryz.func14,Tryz.ntmps14
  go_wp2_with (refine wpList_value (o:=⟨some 36,_,_,_,_,_⟩) (.slice (some ⟨w.heap.size,0,none⟩) 28 28) (w.alloc (.cells (evs al) 37)) rfl (by kernel_rfl) ?_)
  clear g0 g1 g2 g3 g4 g5 g6 g7 g8 g9 g10 g11 g12 g13 g14 g15 g16 g17 g18 g19 g20 g21 g22 g23 g24 g25 g26 g27
  show Code.wp _ _ _ _ (w.alloc (.cells (evs al) 37))
  generalize hW:w.alloc (.cells (evs al) 37)=W at HB HS HC ⊢
  have HW:=Lib.hid hW
  clear hW
  go_loop [39] (fun i=>∃ k:Nat,k<m∧i=.int .i64 k) (fun i=>28-(intOf i).toNat)
  case atStart=>exact ⟨0,by omega,rfl⟩
  case round =>
   obtain ⟨k,hk,rfl⟩:=hrel
   have hc:=HC.out k (by omega)
   by_cases hlast:m=k+1
   ·subst hlast
    have C:=Lib.hid (is_ev HS.out (k+1) k h0 hm (by omega))
    go_wp2_with (go_at_call 40;refine (C.out).mono ?_;rintro e w' ⟨rfl,rfl⟩)
    go_ret
    exact ⟨by simp,HB.out⟩
   ·have hdd:decide (m=k+1)=false:=by simpa using hlast
    have C:=Lib.hid (is_ev HS.out m k h0 hm (by omega))
    go_wp2_with (go_at_call 40;refine (C.out).mono ?_;rintro e w' ⟨rfl,rfl⟩)
    grind [intOf]
end Go.Proofs.YtnijncmifjnifaaGreatDoor
namespace Go.Proofs.YtnijncmifjnifaaGreatDoor
set_option linter.unusedVariables false
namespace Am
open Go.RowKit
section
variable {gs:List Nat} [OkG gs]
theorem num_ac (m:Nat) (hm:m≤28):ACp gs Tryz.prog 14 [.err m] (.c (.int .i64 m)) :=
 ac_old fun al w St vals hs hv hr=>by
  have h0:vals.getD 0 undef=ev al m:=hr 0
  rw [vals1 hv,h0]
  exact num_any hs.std m hm
end
end Am
end Go.Proofs.YtnijncmifjnifaaGreatDoor
