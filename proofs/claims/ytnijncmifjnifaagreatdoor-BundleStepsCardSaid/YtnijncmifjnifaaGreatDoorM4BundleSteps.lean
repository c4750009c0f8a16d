/- What the law leans on, part 4 -/
import Derived.Test.YtnijncmifjnifaaGreatDoorM3BundleSteps
import Derived.Stop.Asserts
import Derived.RowKitTokens
import Derived.Sort.Statements
import Derived.Lib.DecodeN
import Derived.Lib.ValidU
import Derived.Test.YtnijncmifjnifaaGreatDoorChecked
import Derived.Laws.BitsAllLaws
import Derived.IntWalk
import Derived.Lib.Join
set_option maxRecDepth 100000
set_option maxHeartbeats 8000000
set_option linter.unusedVariables false
open Go.Proofs.Tryz
namespace Go.Proofs.YtnijncmifjnifaaGreatDoor
namespace Am
open Go.RowKit
section
variable {P:Program} {G:Gh} {ops:Array Oper} {o:Oper} {s:AS} {r:List Oper} {K:AS→Prop} {R:Exit→AS→Prop} {Y:AS→Prop} {x y:Code} {env:List (Nat×CV)} {b0:Nat→CV} {H:List (Option Nat×av)}
def Ax:Nat→(Nat→Prop)→Prop
 | 0,_=>True
 | n+1,p=>p 0∧Ax n fun j=>p (j+1)
theorem CL:∀ {n:Nat} {p:Nat→Prop},Ax n p→∀ j,j<n→p j
 | 0,_,_,j,hj=>absurd hj (F3 j)
 | n+1,_,h,0,_=>h.1
 | n+1,_,h,j+1,hj=>CL h.2 j (Nat.lt_of_succ_lt_succ hj)
theorem dV {n:Nat} {F H:Nat→CV} (h:Ax n fun j=>J (F j) (H j):=by (repeat refine And.intro (by first|exact cZ|exact cN|exact J.nilS' rfl|exact cO rfl|exact cP|exact J.fn0) ?_);exact True.intro) (j:Nat) (hj:j<n):J (F j) (H j):=CL h j hj
theorem iw {n m:Nat} {F H:Nat→CV} (hn:n=m:=by exact rfl) (h:Ax n fun j=>J (F j) (H j):=by (repeat refine And.intro (by first|exact cZ|exact cN|exact J.nilS' rfl|exact cO rfl|exact cP|exact J.fn0) ?_);exact True.intro):J (.agg n F) (.agg m H):=J.agg hn (CL h)
def EJ:CV→Option CV
 | .top=>some .top
 | .c v=>some (.c v)
 | .err k=>some (.err k)
 | .agg n f=>some (.agg n f)
 | .tup n f=>some (.tup n f)
 | .rs k n f=>some (.rs k n f)
 | .rp n f=>some (.rp n f)
 | .os i g off n k=>some (.os i g off n k)
 | .op i g off=>some (.op i g off)
 | .fn g n f=>some (.fn g n f)
 | .pv p=>some (.pv p)
theorem oT {c v:CV} (h:EJ c=some v):c=v:=by cases c<;>(simp only [EJ,F8] at h;exact h)
def gJ:List (Nat×CV)→Nat→Option CV
 | [],_=>none
 |(e,v)::r,d=>match Nat.beq e d with|true=>some v|false=>gJ r d
theorem gI {b:Nat→CV} {d:Nat} {v:CV}:∀ {env:List (Nat×CV)},gJ env d=some v→look env b d=v
 |(e,u)::r,h=>by
  unfold gJ at h;unfold look
  cases hb:Nat.beq e d with
  | true=>rw [hb] at h;exact Ga h
  | false=>rw [hb] at h;exact gI h
theorem kO {b:Nat→CV} {d:Nat}:∀ {env:List (Nat×CV)},gJ env d=none→look env b d=b d
 | [],_=>rfl
 |(e,u)::r,h=>by
  unfold gJ at h;unfold look
  cases hb:Nat.beq e d with
  | true=>rw [hb] at h;cases h
  | false=>rw [hb] at h;exact kO h
theorem lY {d:Nat} {v:CV} (h:gJ s.env d=some v):s.eval (.tmp d)=v:=gI h
theorem lZ {D:List Nat} {e2:List (Nat×CV)} {b2:Nat→CV} {d:Nat} {v:CV} (h:gJ env d=none) (hD:D.any (Nat.beq d)=false) (h2:gJ e2 d=some v):(⟨env,kN D e2 b2,H⟩:AS).eval (.tmp d)=v:=by
 show look env (kN D e2 b2) d=v
 rw [kO h]
 unfold kN
 rw [hD]
 exact gI h2
theorem l5 {x:Operand} {v:CV} (h:EJ (s.eval x)=some v):s.eval x=v:=oT h
def DL:List CV→Nat→Option CV
 | [],_=>none
 | x::_,0=>some x
 | _::r,i+1=>DL r i
theorem lm:∀ {l:List CV} {i:Nat} {v:CV},DL l i=some v→fl l i=v
 | x::_,0,v,h=>Ga h
 | _::r,i+1,v,h=>lm (l:=r) h
def uw (P:Program) (t:TypeId) (m:Nat):Bool:=match P.underlying t with|some (.slice e)=>(match (P.info? e).map (·.size) with|some k=>Nat.beq k m|none=>false)|_=>false
theorem ll {t:TypeId} {m:Nat} (h:uw P t m=true):∃ e,P.underlying t=some (.slice e)∧(P.info? e).map (·.size)=some m:=by
 unfold uw at h
 split at h
 ·rename_i e he
  refine ⟨e,he,?_⟩
  split at h
  ·rename_i k hk;rw [hk,Gc h]
  ·cases h
 ·cases h
def Cb (P:Program) (t:TypeId):Bool:=match P.underlying t with|some (.slice _)=>true|_=>false
theorem zp {t:TypeId} (h:Cb P t=true):∃ e,P.underlying t=some (.slice e):=by
 unfold Cb at h
 split at h
 ·rename_i e he;exact ⟨e,he⟩
 ·cases h
def zu (P:Program) (t:TypeId):Bool:=match P.underlying t with|some (.slice e)=>(match P.underlying e with|some (.int .u8)=>true|_=>false)|_=>false
theorem sE {t:TypeId} (h:zu P t=true):∃ e,P.underlying t=some (.slice e)∧P.underlying e=some (.int .u8):=by
 unfold zu at h
 split at h
 ·rename_i e he
  split at h
  ·rename_i h2;exact ⟨e,he,h2⟩
  ·cases h
 ·cases h
def Cg (P:Program) (t:TypeId) (i:Nat):Option (Nat×Nat×Bool):=match P.underlying t with
 | some (.struct fs)=>(match fs[i]? with|some fd=>(match (P.info? fd.type).map (·.size),P.underlying fd.type with|some m,some _=>some (fd.offset,m,eD P fd.type)|_,_=>none)|none=>none)
 | _=>none
theorem zt {t:TypeId} {i q m:Nat} {b:Bool} (h:Cg P t i=some (q,m,b)):∃ fs fd d,P.underlying t=some (.struct fs)∧fs[i]?=some fd∧P.underlying fd.type=some d∧eD P fd.type=b∧(P.info? fd.type).map (·.size)=some m∧fd.offset=q:=by
 unfold Cg at h
 split at h
 ·rename_i fs h1
  split at h
  ·rename_i fd h2
   split at h
   ·rename_i k d h3 h4
    simp only [F8,Prod.mk.injEq] at h
    exact ⟨fs,fd,d,h1,h2,h4,h.2.2,by rw [h3,h.2.1],h.1⟩
   ·cases h
  ·cases h
 ·cases h
def wO (P:Program) (t:TypeId) (m:Nat) (b:Bool):Bool:=match (P.info? t).map (·.size),P.underlying t with|some k,some _=>Nat.beq k m && (eD P t == b)|_,_=>false
theorem oR {t:TypeId} {m:Nat} {b:Bool} (h:wO P t m b=true):∃ d,P.underlying t=some d∧eD P t=b∧(P.info? t).map (·.size)=some m:=by
 unfold wO at h
 split at h
 ·rename_i k d h1 h2
  rw [FK,GF] at h
  exact ⟨d,h2,h.2,by rw [h1,Gc h.1]⟩
 ·cases h
def wQ (P:Program) (t:TypeId):Bool:=match P.underlying t with|some _=>!(eD P t)|none=>false
theorem oS {t:TypeId} (h:wQ P t=true):∃ d,P.underlying t=some d∧eD P t=false:=by
 unfold wQ at h
 split at h
 ·rename_i d hd;exact ⟨d,hd,by simpa using h⟩
 ·cases h
def AN:Op→Option Operand|.move x=>some x|.assign x=>some x|_=>none
theorem CR {x:Operand} {v:CV} (ho:AN o.op=some x:=by exact rfl) (hv:s.eval x=v:=by first|exact lY rfl|exact lZ rfl rfl rfl|exact l5 rfl):aN P G o s v:=by
 unfold AN at ho
 split at ho
 ·rename_i z hz;exact yP hz (by rw [Ga ho];exact hv)
 ·rename_i z hz;exact uh hz (by rw [Ga ho];exact hv)
 ·cases ho
theorem DD {z x' y':Operand} {v:CV} (ho:o.op=.pick z x' y':=by exact rfl) (hz:s.eval z=.c (.bool true):=by exact rfl) (I:s.eval x'=v:=by first|exact lY rfl|exact lZ rfl rfl rfl|exact l5 rfl):aN P G o s v:=vO ho hz I
theorem DE {z x' y':Operand} {v:CV} (ho:o.op=.pick z x' y':=by exact rfl) (hz:s.eval z=.c (.bool false):=by exact rfl) (hy:s.eval y'=v:=by first|exact lY rfl|exact lZ rfl rfl rfl|exact l5 rfl):aN P G o s v:=vP ho hz hy
theorem wP {x:Operand} {i n:Nat} {f:Nat→CV} {v:CV} (ho:o.op=.extract x i:=by exact rfl) (I:s.eval x=.tup n f:=by exact rfl) (hi:Nat.blt i n=true:=by exact rfl) (hv:f i=v:=by first|exact lm rfl|exact oT rfl):aN P G o s v:=re ho I hi hv
def AT (op:BinOp) (a b:Int):Option Bool:=match op with
 | .eql=>some (decide (a=b))
 | .neq=>some (decide (a≠b))
 | .lss=>some (decide (a<b))
 | .leq=>some (decide (a≤b))
 | .gtr=>some (decide (b<a))
 | .geq=>some (decide (b≤a))
 | _=>none
theorem E8 {op:BinOp} {t u:TypeId} {x y:Operand} {k:IntKind} {a b:Int} {z:Bool} (ho:o.op=.binOp op t x y u:=by exact rfl) (I:s.eval x=.c (.int k a):=by exact rfl) (hy:s.eval y=.c (.int k b):=by exact rfl) (hc:AT op a b=some z:=by exact rfl):aN P G o s (.c (.bool z)):=by
 cases op<;>simp only [AT,F8,reduceCtorEq] at hc
 all_goals subst hc
 exact BO ho I hy
 exact BE ho I hy
 exact Dj ho I hy
 exact Dk ho I hy
 exact Dl ho I hy
 exact Dm ho I hy
def DN (op:BinOp) (a b:Int):Option Int:=match op with
 | .add=>some (a+b)
 | .sub=>some (a-b)
 | .mul=>some (a * b)
 | _=>none
theorem yd {op:BinOp} {t u:TypeId} {x y:Operand} {k:IntKind} {a b z:Int} (ho:o.op=.binOp op t x y u:=by exact rfl) (I:s.eval x=.c (.int k a):=by exact rfl) (hy:s.eval y=.c (.int k b):=by exact rfl) (hc:DN op a b=some z:=by exact rfl) (hS:Ed k z:=by (show _∧_;(first|omega|decide|(dsimp only at *;omega)))):aN P G o s (.c (.int k z)):=by
 cases op<;>simp only [DN,F8,reduceCtorEq] at hc
 all_goals subst hc
 exact BR ho I hy (fD hS)
 exact Bw ho I hy (fD hS)
 exact BH ho I hy (fD hS)
theorem Fp {t u:TypeId} {x y:Operand} {k:IntKind} {a b:Int} (ho:o.op=.binOp .quo t x y u:=by exact rfl) (I:s.eval x=.c (.int k a):=by exact rfl) (hy:s.eval y=.c (.int k b):=by exact rfl) (hS:0≤a:=by first|omega|decide|(dsimp only at *;omega)) (hS2:1≤b:=by first|omega|decide|(dsimp only at *;omega)) (hS3:Ed k (a / b):=by (show _∧_;(first|omega|decide|(dsimp only at *;omega)))):aN P G o s (.c (.int k (a / b))):=Bz ho I hy hS hS2 (fD hS3)
theorem Fn {t u:TypeId} {x y:Operand} {k:IntKind} {a b:Int} (ho:o.op=.binOp .rem t x y u:=by exact rfl) (I:s.eval x=.c (.int k a):=by exact rfl) (hy:s.eval y=.c (.int k b):=by exact rfl) (hS:0≤a:=by first|omega|decide|(dsimp only at *;omega)) (hS2:1≤b:=by first|omega|decide|(dsimp only at *;omega)):aN P G o s (.c (.int k (a % b))):=By ho I hy hS hS2
def AR (op:BinOp) (a b:V):Option Bool:=match op with
 | .eql=>some (decide (a=b))
 | .neq=>some (decide (a≠b))
 | .lss=>some (Op.bytesLess a b)
 | .gtr=>some (!(Op.bytesLess a b || a == b))
 | _=>none
theorem DF {op:BinOp} {t u:TypeId} {x y:Operand} {a b:V} {z:Bool} (ho:o.op=.binOp op t x y u:=by exact rfl) (I:s.eval x=bi a:=by exact rfl) (hy:s.eval y=bi b:=by exact rfl) (hc:AR op a b=some z:=by exact rfl):aN P G o s (.c (.bool z)):=by
 cases op<;>simp only [AR,F8,reduceCtorEq] at hc
 all_goals subst hc
 exact BN ho I hy
 exact BD ho I hy
 exact BJ ho I hy
 exact BL ho I hy
theorem EH {op:BinOp} {t u:TypeId} {x y:Operand} {a b z:Bool} (ho:o.op=.binOp op t x y u:=by exact rfl) (I:s.eval x=.c (.bool a):=by exact rfl) (hy:s.eval y=.c (.bool b):=by exact rfl) (hc:(match op with|.eql=>some (a == b)|.neq=>some (!(a == b))|_=>none)=some z:=by exact rfl) (hT:P.underlying t=some .bool:=by kernel_rfl):aN P G o s (.c (.bool z)):=by
 cases op<;>simp only [F8,reduceCtorEq] at hc
 all_goals subst hc
 exact BQ ho I hy hT
 exact BG ho I hy hT
def p9 (c:CV) (z:Bool):Prop:=c=.c (.bool (!z))
theorem DG {p:Prop} [Decidable p] {c:CV} (h:c=.c (.bool (decide p))):p9 c (decide ¬ p):=by unfold p9;rw [h];simp
theorem DH {p:Bool} {c:CV} (h:c=.c (.bool p)):p9 c (!p):=by unfold p9;rw [h,Bool.not_not]
theorem E6 {t:TypeId} {x:Operand} {z:Bool} (ho:o.op=.unOp .not t x:=by exact rfl) (I:p9 (s.eval x) z:=by first|exact DG rfl|exact DH rfl):aN P G o s (.c (.bool z)):=by
 have:=BB (P:=P) (G:=G) ho I
 rwa [Bool.not_not] at this
def AO:CV→Option Int
 | .rs _ n _=>some ((n:Nat):Int)
 | .os _ _ _ n _=>some ((n:Nat):Int)
 | .c (.slice none 0 0)=>some 0
 | _=>none
theorem E7 {x:Operand} {t:TypeId} {z:Int} (ho:o.op=.call ⟨.builtin .len,#[x],#[t]⟩:=by exact rfl) (I:AO (s.eval x)=some z:=by exact rfl) (hT:Cb P t=true:=by kernel_rfl):aN P G o s (.c (.int .i64 z)):=by
 have ⟨e,he⟩:=zp hT
 unfold AO at I
 split at I
 ·rename_i h;cases I;exact yR ho h he
 ·rename_i h;cases I;exact yT ho h he
 ·rename_i h;cases I;exact yU ho h he
 ·cases I
theorem EG {x:Operand} {t:TypeId} {a:V} (ho:o.op=.call ⟨.builtin .len,#[x],#[t]⟩:=by exact rfl) (I:s.eval x=bi a:=by exact rfl) (hT:P.underlying t=some .string:=by kernel_rfl):aN P G o s (.c (.int .i64 (a.length:Nat))):=yV ho I hT
def DM (q:Nat):CV→Option CV
 | .op j g off=>some (.op j g (off+q))
 | .rp n f=>some (.rp (n-q) fun j=>f (q+j))
 | _=>none
theorem cU (q m:Nat) (b:Bool) {t:TypeId} {x:Operand} {i:Nat} {v:CV} (ho:o.op=.fieldAddr t x i:=by exact rfl) (I:DM q (s.eval x)=some v:=by exact rfl) (hm:Nat.blt 0 m=true:=by exact rfl) (hT:Cg P t i=some (q,m,b):=by kernel_rfl):aN P G o s v:=by
 have ⟨fs,fd,d,h1,h2,h3,h4,h5,h6⟩:=zt hT
 subst h6
 unfold DM at I
 split at I
 ·rename_i h;cases I;exact ue ho h h1 h2 h5 hm
 ·rename_i h;cases I;exact ud ho h h1 h2 h5 hm
 ·cases I
def DK (i:Nat):CV→Option (CV×Nat×Nat)
 | .rs m n f=>some (.rp m (f i),n,m)
 | .os j g off n m=>some (match Nat.beq off 0,Nat.beq m 1 with|true,true=>.op j g i|_,_=>.op j g (off+i * m),n,m)
 | _=>none
theorem iu {i:Nat} {t:TypeId} {x y:Operand} {k:IntKind} {z:Int} {v:CV} {n m:Nat} (ho:o.op=.indexAddr t x y:=by exact rfl) (hy:s.eval y=.c (.int k z):=by exact rfl) (hz:z=(i:Int):=by first|exact rfl|exact ro O) (I:DK i (s.eval x)=some (v,n,m):=by exact rfl) (hS:i<n:=by first|omega|decide|(dsimp only at *;omega)) (hm:Nat.blt 0 m=true:=by exact rfl) (hT:uw P t m=true:=by kernel_rfl):aN P G o s v:=by
 have ⟨e,h1,h5⟩:=ll hT
 unfold DK at I
 split at I
 ·rename_i h;cases I;exact uc ho h hy h1 h5 hz hS (FS hm)
 ·rename_i j g off n' m' h
  cases I
  cases h6:Nat.beq off 0 with
  | false=>exact jV ho h hy h1 h5 hz hS
  | true =>
   cases h7:Nat.beq m 1 with
   | false=>exact jV ho h hy h1 h5 hz hS
   | true =>
    have e1:=Gc h6
    have e2:=Gc h7
    subst e1 e2
    exact rc ho h hy h1 h5 hz hS
 ·cases I
theorem ux {i:Nat} {t:TypeId} {x y:Operand} {k:IntKind} {z:Int} {a:V} (ho:o.op=.index t x y:=by exact rfl) (I:s.eval x=bi a:=by exact rfl) (hy:s.eval y=.c (.int k z):=by exact rfl) (hz:z=(i:Int):=by first|exact rfl|exact ro O) (hS:i<a.length:=by first|omega|decide|(dsimp only at *;omega)) (hT:P.underlying t=some .string:=by kernel_rfl):aN P G o s (bX a i):=ub ho I hy hT hz hS
def AM:CV→Option CV
 | .op i g off=>some (.op i g off)
 | .rp n f=>some (.rp n f)
 | .fn g n f=>some (.fn g n f)
 | _=>none
theorem Cd {x:Operand} {v:CV} (ho:o.op=.nilCheck x:=by exact rfl) (I:AM (s.eval x)=some v:=by exact rfl):aN P G o s v:=by
 unfold AM at I
 split at I
 ·rename_i h;cases I;exact yM ho h
 ·rename_i h;cases I;exact yL ho h
 ·rename_i h;cases I;exact yN ho h
 ·cases I
theorem Ce {g:FuncId} {cs:Array Operand} {n:Nat} (ho:o.op=.makeFunc (.func g) #[] cs:=by exact rfl) (hn:cs.size=n:=by exact rfl):aN P G o s (.fn g n (fl (cs.toList.map s.eval))):=pE ho hn
theorem EE (k':IntKind) {c:UInt8} {t u:TypeId} {x:Operand} (ho:o.op=.convert t u x:=by exact rfl) (I:s.eval x=.c (.int .u8 ((c.toNat:Nat):Int)):=by exact rfl) (h1:P.underlying t=some (.int .u8):=by kernel_rfl) (h2:P.underlying u=some (.int k'):=by kernel_rfl) (hk:rY k'=true:=by exact rfl):aN P G o s (.c (.int k' ((c.toNat:Nat):Int))):=vU ho I h1 h2 hk
theorem Cc (k k':IntKind) {a:Int} {t u:TypeId} {x:Operand} (ho:o.op=.convert t u x:=by exact rfl) (I:s.eval x=.c (.int k a):=by exact rfl) (hS:Ed k' a:=by (show _∧_;(first|omega|decide|(dsimp only at *;omega)))) (h1:P.underlying t=some (.int k):=by kernel_rfl) (h2:P.underlying u=some (.int k'):=by kernel_rfl):aN P G o s (.c (.int k' a)):=gz ho I h1 h2 a (fD hS)
theorem ED (k k':IntKind) {a z:Int} {t u:TypeId} {x:Operand} (ho:o.op=.convert t u x:=by exact rfl) (I:s.eval x=.c (.int k a):=by exact rfl) (hr:k'.wrap a=z:=by exact rfl) (h1:P.underlying t=some (.int k):=by kernel_rfl) (h2:P.underlying u=some (.int k'):=by kernel_rfl):aN P G o s (.c (.int k' z)):=gz ho I h1 h2 z hr
theorem EI {t u:TypeId} {x:Operand} {a:V} (ho:o.op=.convert t u x:=by exact rfl) (I:s.eval x=dL a:=by exact rfl) (hT:zu P t=true:=by kernel_rfl) (h3:P.underlying u=some .string:=by kernel_rfl):aN P G o s (bi a):=by
 have ⟨e,h1,h2⟩:=sE hT
 exact ug ho I h1 h2 h3
theorem EF {t:TypeId} {p b:Operand} {z2:Int} {k2:IntKind} {v:Nat} {bl:V} (ho:o.op=.slice t p none (some b) none:=by exact rfl) (I:s.eval p=dL bl:=by exact rfl) (hb:s.eval b=.c (.int k2 z2):=by exact rfl) (hz2:z2=(v:Int):=by first|exact rfl|exact ro O) (hS:v≤bl.length:=by first|omega|decide|(dsimp only at *;omega)) (hT:uw P t 1=true:=by kernel_rfl):aN P G o s (dL (bl.take v)):=by
 have ⟨e,h1,h5⟩:=ll hT
 exact oE ho I h1 h5 hb hz2 hS
theorem DC {t:TypeId} {p:Operand} {m n l v:Nat} {f:Nat→Nat→CV} {lo hi:Option Operand} (ho:o.op=.slice t p lo hi none:=by exact rfl) (I:s.eval p=.rs m n f:=by exact rfl) (hl:Bd s 0 lo l:=by first|exact dm _ _|exact bO rfl rfl|exact bO rfl (ro O)) (hu:Bd s n hi v:=by first|exact dm _ _|exact bO rfl rfl|exact bO rfl (ro O)) (hS:l≤v:=by first|omega|decide|(dsimp only at *;omega)) (hS2:v≤n:=by first|omega|decide|(dsimp only at *;omega)) (hT:uw P t m=true:=by kernel_rfl):aN P G o s (.rs m (v-l) fun i j=>f (l+i) j):=by
 have ⟨e,h1,h5⟩:=ll hT
 exact nh ho I h1 h5 hl hu hS hS2
theorem zq {t:TypeId} {p:Operand} {i off m n l v:Nat} {g:Option Nat} {lo hi:Option Operand} (ho:o.op=.slice t p lo hi none:=by exact rfl) (I:s.eval p=.os i g off n m:=by exact rfl) (hl:Bd s 0 lo l:=by first|exact dm _ _|exact bO rfl rfl|exact bO rfl (ro O)) (hu:Bd s n hi v:=by first|exact dm _ _|exact bO rfl rfl|exact bO rfl (ro O)) (hS:l≤v:=by first|omega|decide|(dsimp only at *;omega)) (hS2:v≤n:=by first|omega|decide|(dsimp only at *;omega)) (hS3:l=0∨l<n:=by first|omega|decide|(dsimp only at *;omega)) (hT:uw P t m=true:=by kernel_rfl):aN P G o s (.os i g (off+l * m) (v-l) m):=by
 have ⟨e,h1,h5⟩:=ll hT
 exact tX ho I h1 h5 hl hu hS hS2 hS3
theorem lX {t:TypeId} {x:Operand} {i off n:Nat} {g:Option Nat} {f:Nat→CV} {v:CV} (ho:o.op=.load t x:=by exact rfl) (I:s.eval x=.op i g off:=by exact rfl) (hH:Holds s i g n f:=by first|exact .inl rfl|exact .inr rfl) (hv:f off=v:=by first|exact lm rfl|exact oT rfl) (hn:off<n:=by first|decide|omega|(dsimp only at *;omega)) (hT:wQ P t=true:=by kernel_rfl):gi P G o s v:=by
 have ⟨d,h1,ha⟩:=oS hT
 exact vR ho I hH h1 ha hn hv
theorem uy {t:TypeId} {x:Operand} {n:Nat} {f:Nat→CV} {v:CV} (ho:o.op=.load t x:=by exact rfl) (I:s.eval x=.rp n f:=by exact rfl) (hv:f 0=v:=by first|exact lm rfl|exact oT rfl) (hn:0<n:=by first|decide|omega|(dsimp only at *;omega)) (hT:wQ P t=true:=by kernel_rfl):aN P G o s v:=by
 have ⟨d,h1,ha⟩:=oS hT
 exact vQ ho I h1 ha hn hv
theorem aI (m:Nat) {t:TypeId} {x:Operand} {i off n:Nat} {g:Option Nat} {f:Nat→CV} (ho:o.op=.load t x:=by exact rfl) (I:s.eval x=.op i g off:=by exact rfl) (hH:Holds s i g n f:=by first|exact .inl rfl|exact .inr rfl) (hn:off+m≤n:=by first|decide|omega|(dsimp only at *;omega)) (hT:wO P t m true=true:=by kernel_rfl):gi P G o s (.agg m fun j=>f (off+j)):=by
 have ⟨d,h1,ha,h5⟩:=oR hT
 exact t8 ho I hH h1 ha h5 hn
theorem bS (m:Nat) {t:TypeId} {x:Operand} {n:Nat} {f:Nat→CV} (ho:o.op=.load t x:=by exact rfl) (I:s.eval x=.rp n f:=by exact rfl) (hn:m≤n:=by first|decide|omega|(dsimp only at *;omega)) (hT:wO P t m true=true:=by kernel_rfl):aN P G o s (.agg m f):=by
 have ⟨d,h1,ha,h5⟩:=oR hT
 exact t7 ho I h1 ha h5 hn
theorem iv (i:Nat) [h0:a7 G.gs i] {t:TypeId} {g:Nat} (ho:o.op=.load t (.global g):=by exact rfl) (hg:gs[i]?=some g:=by exact rfl) (hT:wQ P t=true:=by kernel_rfl):aN P G o s (.err (i+1)):=by
 have ⟨d,h1,ha⟩:=oS hT
 exact vS i ho hg h1 ha
theorem jq {d:Nat} {v:CV} (h:aN P G o ⟨env,b0,H⟩ v) (hk:bm P G ops r ⟨(d,v)::env,b0,H⟩ K) (hd:o.dst=some d:=by exact rfl) (hN:Nat.blt d G.N=true:=by exact rfl) (hw:aj G ops o ⟨env,b0,H⟩ true:=by first|exact aA rfl|exact aV rfl rfl rfl rfl true rfl):bm P G ops (o::r) ⟨env,b0,H⟩ K:=Er hw hd hN h hk
theorem gj {d:Nat} {v:CV} (h:gi P G o ⟨env,b0,H⟩ v) (hk:bm P G ops r ⟨(d,v)::env,b0,H⟩ K) (hd:o.dst=some d:=by exact rfl) (hN:Nat.blt d G.N=true:=by exact rfl) (hw:aj G ops o ⟨env,b0,H⟩ true:=by first|exact aA rfl|exact aV rfl rfl rfl rfl true rfl):bm P G ops (o::r) ⟨env,b0,H⟩ K:=Dn hw hd hN h hk
theorem Fr {d:Nat} (hk:bm P G ops r ⟨(d,.c undef)::env,b0,H⟩ K) (hd:o.dst=some d:=by exact rfl) (hN:Nat.blt d G.N=true:=by exact rfl) (hw:aj G ops o ⟨env,b0,H⟩ false:=by first|exact aV rfl rfl rfl rfl false rfl|exact d9 rfl rfl rfl rfl):bm P G ops (o::r) ⟨env,b0,H⟩ K:=BT hw hd hN hk
theorem ay (h:eG P G o ⟨env,b0,H⟩ (fun s'=>bm P G ops r s' K)) (hw:aj G ops o ⟨env,b0,H⟩ true:=by first|exact aA rfl|exact aV rfl rfl rfl rfl true rfl):bm P G ops (o::r) ⟨env,b0,H⟩ K:=Br hw h
theorem aL (h:kE P G o ⟨env,b0,H⟩ (fun s'=>bm P G ops r s' K)) (hw:aj G ops o ⟨env,b0,H⟩ true:=by first|exact aA rfl|exact aV rfl rfl rfl rfl true rfl):bm P G ops (o::r) ⟨env,b0,H⟩ K:=vw hw h
def cp:List Oper→Nat→Oper
 | [],_=>default
 | a::_,0=>a
 | _::l,i+1=>cp l i
section
variable {i:Nat} {t:d7}
theorem ia (h:Nat.blt i ops.size=true):ops[i]?=some (cp ops.toList i):=by
 have hlt:i<ops.size:=FS h
 rw [FP hlt]
 have key:∀ (l:List Oper) (i:Nat) (hi:i<l.length),l[i]=cp l i:=fun l=>by
  induction l with
  | nil=>intro i hi;simp at hi
  | cons a l ih =>
   intro i hi
   cases i with
   | zero=>rfl
   | succ i=>exact ih i (by simpa using hi)
 have:=key ops.toList i (by simpa using hlt)
 rw [← this,Hz]
theorem km (hi:Nat.blt i ops.size=true):ac ops (.rd i t)=.rd (cp ops.toList i) (ac ops t):=by simp only [ac,ia hi]
theorem ec (hi:Nat.blt i ops.size=true):ac ops (.one i t)=.one (cp ops.toList i) (ac ops t):=by simp only [ac,ia hi]
theorem eF {d:Nat} {v:CV} (h:aN P G (cp ops.toList i) ⟨env,b0,H⟩ v) (hk:AX P G ops (ac ops t) ⟨(d,v)::env,b0,H⟩ K) (hd:(cp ops.toList i).dst=some d:=by exact rfl) (hN:Nat.blt d G.N=true:=by exact rfl) (hw:aj G ops (cp ops.toList i) ⟨env,b0,H⟩ true:=by first|exact aA rfl|exact aV rfl rfl rfl rfl true rfl) (hi:Nat.blt i ops.size=true:=by exact rfl):AX P G ops (ac ops (.rd i t)) ⟨env,b0,H⟩ K:=by rw [km hi];exact El hw hd hN h hk
theorem yc {d:Nat} {v:CV} (h:gi P G (cp ops.toList i) ⟨env,b0,H⟩ v) (hk:AX P G ops (ac ops t) ⟨(d,v)::env,b0,H⟩ K) (hd:(cp ops.toList i).dst=some d:=by exact rfl) (hN:Nat.blt d G.N=true:=by exact rfl) (hw:aj G ops (cp ops.toList i) ⟨env,b0,H⟩ true:=by first|exact aA rfl|exact aV rfl rfl rfl rfl true rfl) (hi:Nat.blt i ops.size=true:=by exact rfl):AX P G ops (ac ops (.rd i t)) ⟨env,b0,H⟩ K:=by rw [km hi];exact C1 hw hd hN h hk
theorem Fk {d:Nat} (hk:AX P G ops (ac ops t) ⟨(d,.c undef)::env,b0,H⟩ K) (hd:(cp ops.toList i).dst=some d:=by exact rfl) (hN:Nat.blt d G.N=true:=by exact rfl) (hw:aj G ops (cp ops.toList i) ⟨env,b0,H⟩ false:=by first|exact aV rfl rfl rfl rfl false rfl|exact d9 rfl rfl rfl rfl) (hi:Nat.blt i ops.size=true:=by exact rfl):AX P G ops (ac ops (.rd i t)) ⟨env,b0,H⟩ K:=by rw [km hi];exact Bc hw hd hN hk
theorem pY {d:Nat} (hk:AX P G ops (ac ops t) ⟨(d,.c undef)::env,b0,H⟩ K) (hd:(cp ops.toList i).dst=some d:=by exact rfl) (hN:Nat.blt d G.N=true:=by exact rfl) (hw:aj G ops (cp ops.toList i) ⟨env,b0,H⟩ false:=by first|exact aV rfl rfl rfl rfl false rfl|exact d9 rfl rfl rfl rfl) (hi:Nat.blt i ops.size=true:=by exact rfl):AX P G ops (ac ops (.one i t)) ⟨env,b0,H⟩ K:=by rw [ec hi];exact yk hw hd hN hk
theorem mA (h:eG P G (cp ops.toList i) ⟨env,b0,H⟩ (fun s'=>AX P G ops (ac ops t) s' K)) (hw:aj G ops (cp ops.toList i) ⟨env,b0,H⟩ true:=by first|exact aA rfl|exact aV rfl rfl rfl rfl true rfl) (hi:Nat.blt i ops.size=true:=by exact rfl):AX P G ops (ac ops (.one i t)) ⟨env,b0,H⟩ K:=by rw [ec hi];exact C4 hw h
theorem cD {d:Nat} {v:CV} (h:aN P G (cp ops.toList i) ⟨env,b0,H⟩ v) (hk:AZ P G ops (ac ops t) ⟨(d,v)::env,b0,H⟩ K) (hd:(cp ops.toList i).dst=some d:=by exact rfl) (hN:Nat.blt d G.N=true:=by exact rfl) (hw:aj G ops (cp ops.toList i) ⟨env,b0,H⟩ true:=by first|exact aA rfl|exact aV rfl rfl rfl rfl true rfl) (hi:Nat.blt i ops.size=true:=by exact rfl):AZ P G ops (ac ops (.rd i t)) ⟨env,b0,H⟩ K:=by rw [km hi];exact CU hw hd hN h hk
theorem Ca {d:Nat} {v:CV} (h:gi P G (cp ops.toList i) ⟨env,b0,H⟩ v) (hk:AZ P G ops (ac ops t) ⟨(d,v)::env,b0,H⟩ K) (hd:(cp ops.toList i).dst=some d:=by exact rfl) (hN:Nat.blt d G.N=true:=by exact rfl) (hw:aj G ops (cp ops.toList i) ⟨env,b0,H⟩ true:=by first|exact aA rfl|exact aV rfl rfl rfl rfl true rfl) (hb:y6 ops (cp ops.toList i)=true:=by kernel_rfl) (hi:Nat.blt i ops.size=true:=by exact rfl):AZ P G ops (ac ops (.rd i t)) ⟨env,b0,H⟩ K:=by rw [km hi];exact A7 hw hd hN hb h hk
theorem zo {d:Nat} {v:CV} (h:gi P G (cp ops.toList i) ⟨env,b0,H⟩ v) (hk:AZ P G ops (ac ops t) ⟨(d,v)::env,b0,H⟩ K) (hd:(cp ops.toList i).dst=some d:=by exact rfl) (hN:Nat.blt d G.N=true:=by exact rfl) (hw:aj G ops (cp ops.toList i) ⟨env,b0,H⟩ true:=by first|exact aA rfl|exact aV rfl rfl rfl rfl true rfl) (hi:Nat.blt i ops.size=true:=by exact rfl):AZ P G ops (ac ops (.one i t)) ⟨env,b0,H⟩ K:=by rw [ec hi];exact u4 hw hd hN h hk
theorem Fi {d:Nat} (hk:AZ P G ops (ac ops t) ⟨(d,.c undef)::env,b0,H⟩ K) (hd:(cp ops.toList i).dst=some d:=by exact rfl) (hN:Nat.blt d G.N=true:=by exact rfl) (hw:aj G ops (cp ops.toList i) ⟨env,b0,H⟩ false:=by first|exact aV rfl rfl rfl rfl false rfl|exact d9 rfl rfl rfl rfl) (hi:Nat.blt i ops.size=true:=by exact rfl):AZ P G ops (ac ops (.rd i t)) ⟨env,b0,H⟩ K:=by rw [km hi];exact yf hw hd hN hk
theorem qM (h:eG P G (cp ops.toList i) ⟨env,b0,H⟩ (fun s'=>AZ P G ops (ac ops t) s' K)) (hw:aj G ops (cp ops.toList i) ⟨env,b0,H⟩ true:=by first|exact aA rfl|exact aV rfl rfl rfl rfl true rfl) (hi:Nat.blt i ops.size=true:=by exact rfl):AZ P G ops (ac ops (.one i t)) ⟨env,b0,H⟩ K:=by rw [ec hi];exact C0 hw h
theorem fT (h:kE P G (cp ops.toList i) ⟨env,b0,H⟩ (fun s'=>AZ P G ops (ac ops t) s' K)) (hw:aj G ops (cp ops.toList i) ⟨env,b0,H⟩ true:=by first|exact aA rfl|exact aV rfl rfl rfl rfl true rfl) (hm:nz (cp ops.toList i)=true:=by exact rfl) (hi:Nat.blt i ops.size=true:=by exact rfl):AZ P G ops (ac ops (.one i t)) ⟨env,b0,H⟩ K:=by rw [ec hi];exact Ek hw hm h
theorem DB (h:K s):AX P G ops (ac ops .done) s K:=Bf h
theorem Fj (h:K s):AZ P G ops (ac ops .done) s K:=Bb h
theorem AK {j:Nat} {u:d7} (h1:AX P G ops (ac ops (.one i t)) s K) (h2:AX P G ops (ac ops (.one j u)) s K) (hi:Nat.blt i ops.size=true:=by exact rfl) (hj:Nat.blt j ops.size=true:=by exact rfl):AX P G ops (ac ops (.two i t j u)) s K:=by
 rw [ec hi] at h1
 rw [ec hj] at h2
 simp only [ac,ia hi,ia hj]
 exact C3 h1 h2
theorem pX {j:Nat} {u:d7} (h1:AZ P G ops (ac ops (.one i t)) s K) (h2:AZ P G ops (ac ops (.one j u)) s K) (hi:Nat.blt i ops.size=true:=by exact rfl) (hj:Nat.blt j ops.size=true:=by exact rfl):AZ P G ops (ac ops (.two i t j u)) s K:=by
 rw [ec hi] at h1
 rw [ec hj] at h2
 simp only [ac,ia hi,ia hj]
 exact CY h1 h2
end
theorem Fs {id:Nat} (h:bm P G ops ops.toList s (R .normal)) (hd:sl G.rd ops=true:=by rfl):ap P G (.region id ops false) s R:=kQ h hd
theorem pZ {id:Nat} (t:d7) (h:AX P G ops (ac ops t) s (R .normal)) (hm:P.follows .mixedOrders=true:=by kernel_rfl) (hs:Region.noSelect ops=true:=by kernel_rfl) (hl:t.len=ops.size:=by exact rfl) (hin:t.within ops.size=true:=by kernel_rfl) (hB:bc .any ops t (Array.replicate ops.size false)=true:=by kernel_rfl) (hd:sl G.rd ops=true:=by rfl):ap P G (.region id ops true) s R:=uO t hm hs hl hin hB h hd
theorem Cj {id:Nat} (m:Nat) (t:d7) (h:AX P G ops (ac ops t) s (fun s'=>bm P G ops (ops.toList.drop m) s' (R .normal))) (hmix:P.follows .mixedOrders=true:=by kernel_rfl) (hs:Region.noSelect ops=true:=by kernel_rfl) (hm:Nat.ble m ops.size=true:=by exact rfl) (hl:t.len=m:=by exact rfl) (hin:t.within ops.size=true:=by kernel_rfl) (hc:fX .any ops m=true:=by kernel_rfl)
  (hB:bJ .any ops m t (Array.replicate ops.size false)=true:=by kernel_rfl) (ht:lG .any ops (ops.size-m) m (mT m ops.size)=true:=by kernel_rfl) (hd:sl G.rd ops=true:=by rfl) (hy:G.yl=false:=by rfl):ap P G (.region id ops true) s R:=rL m t hmix hs hm hl hin hc hB ht h hd hy
theorem ko {id:Nat} (u:d7) (h:AZ P G ops (ac ops u) s (R .normal)) (hmix:P.follows .mixedOrders=true:=by kernel_rfl) (hs:Region.noSelect ops=true:=by kernel_rfl) (hul:u.len=ops.size:=by exact rfl) (huin:u.within ops.size=true:=by kernel_rfl) (hu:bc .any ops u (Array.replicate ops.size false)=true:=by kernel_rfl) (hd:sl G.rd ops=true:=by rfl):ap P G (.region id ops true) s R:=rK u hmix hs hul huin hu h hd
theorem oU (h:ap P G x s (iY (fun s'=>ap P G y s' R) R)):ap P G (.seq x y) s R:=mh h
theorem dU {id:Nat} (h:bm P G ops ops.toList s (fun s'=>ap P G y s' R)) (hd:sl G.rd ops=true:=by rfl):ap P G (.seq (.region id ops false) y) s R:=mh (kQ h hd)
theorem Fl (h:Y s):iY Y R .normal s:=h
theorem Fm {i:Nat} (h:R (.exit i) s):iY Y R (.exit i) s:=h
theorem hZ (h:R .ret s):iY Y R .ret s:=h
theorem Fw {i:Nat} (h:R .normal s):f1 i R .normal s:=h
theorem sF {i:Nat} (h:R .ret s):f1 i R .ret s:=h
theorem Fv {i j:Nat} (h:R .normal s) (he:Nat.beq j i=true:=by exact rfl):f1 i R (.exit j) s:=rS he h
theorem EM {i j:Nat} (h:R (.exit j) s) (he:Nat.beq j i=false:=by exact rfl):f1 i R (.exit j) s:=qF he h
def jh (c:CV) (p n:Prop):Prop:=∃ t:Bool,c=.c (.bool t)∧(t=true→p)∧(t=false→n)
theorem Ch {p:Prop} [Decidable p] {c:CV} (h:c=.c (.bool (decide p))):jh c p (¬ p):=⟨_,h,HQ,of_decide_eq_false⟩
theorem Ci {t:Bool} {c:CV} (h:c=.c (.bool t)):jh c (t=true) (t=false):=⟨_,h,id,id⟩
theorem aX {d:Nat} {p n:Prop} (ht:p→ap P G x ⟨(d,.c (.bool true))::env,b0,H⟩ R) (hf:n→ap P G y ⟨(d,.c (.bool false))::env,b0,H⟩ R) (hl:jh (look env b0 d) p n:=by first|exact Ch rfl|exact Ci rfl) (hN:Nat.blt d G.N=true:=by exact rfl):ap P G (.cond (.tmp d) x y) ⟨env,b0,H⟩ R:=by
 have ⟨t,h1,h2,h3⟩:=hl
 exact rN hN h1 (fun e=>ht (h2 e)) (fun e=>hf (h3 e))
theorem aaa {d:Nat} {p n:Prop} (hf:n→ap P G y ⟨(d,.c (.bool false))::env,b0,H⟩ R) (ht:p→ap P G x ⟨(d,.c (.bool true))::env,b0,H⟩ R) (hl:jh (look env b0 d) p n:=by first|exact Ch rfl|exact Ci rfl) (hN:Nat.blt d G.N=true:=by exact rfl):ap P G (.cond (.tmp d) x y) ⟨env,b0,H⟩ R:=by
 exact aX ht hf hl hN
theorem Ft {d:Operand} (h:ap P G x s R) (hl:s.eval d=.c (.bool true):=by exact rfl):ap P G (.cond d x y) s R:=rM hl h
theorem Fu {d:Operand} (h:ap P G y s R) (hl:s.eval d=.c (.bool false):=by exact rfl):ap P G (.cond d x y) s R:=rO hl h
theorem aS (d:Nat) {p n:Prop} (ht:p→bm P G ops r ⟨(d,.c (.bool true))::env,b0,H⟩ K) (hf:n→bm P G ops r ⟨(d,.c (.bool false))::env,b0,H⟩ K) (hl:jh (look env b0 d) p n:=by first|exact Ch rfl|exact Ci rfl) (hN:Nat.blt d G.N=true:=by exact rfl):bm P G ops r ⟨env,b0,H⟩ K:=by
 have ⟨t,h1,h2,h3⟩:=hl
 exact tI hN h1 (fun e=>ht (h2 e)) (fun e=>hf (h3 e))
theorem oQ {tr:bu} (d:Nat) {p n:Prop} (ht:p→AX P G ops tr ⟨(d,.c (.bool true))::env,b0,H⟩ K) (hf:n→AX P G ops tr ⟨(d,.c (.bool false))::env,b0,H⟩ K) (hl:jh (look env b0 d) p n:=by first|exact Ch rfl|exact Ci rfl) (hN:Nat.blt d G.N=true:=by exact rfl):AX P G ops tr ⟨env,b0,H⟩ K:=by
 have ⟨t,h1,h2,h3⟩:=hl
 exact yn hN h1 (fun e=>ht (h2 e)) (fun e=>hf (h3 e))
theorem ce {n:Nat} {t:TypeId} {z:Value} {d:Nat} (hz:(P.info? t).map (·.zero)=some (some z)) (hn:z.cells.size=n) (hK:∀ g,K ⟨(d,.op H.length g 0)::env,b0,H++[(g,.blk n fun j=>.c (z.cells.getD j undef))]⟩) (ho:o.op=.alloc t:=by exact rfl) (hd:o.dst=some d:=by exact rfl) (hN:Nat.blt d G.N=true:=by exact rfl):eG P G o ⟨env,b0,H⟩ K:=zV ho hz hn hd hN hK
theorem cG (n:Nat) {t:TypeId} {p:Operand} {c:CV} {l:List CV} {d:Nat} (hK:∀ g,K ⟨(d,.op H.length g 0)::env,b0,H++[(g,.blk n (fl l))]⟩) (ho:o.op=.box t p:=by exact rfl) (I:(⟨env,b0,H⟩:AS).eval p=c:=by first|exact lY rfl|exact lZ rfl rfl rfl|exact l5 rfl) (hl:bC c=some l:=by exact rfl) (hn:l.length=n:=by exact rfl) (hd:o.dst=some d:=by exact rfl) (hN:Nat.blt d G.N=true:=by exact rfl):eG P G o ⟨env,b0,H⟩ K:=DV ho I hl hn hd hN hK
theorem bD (n m:Nat) {e t:TypeId} {z:Value} {len:Nat} {parts:Array (Nat×Operand)} {l:List CV} {d:Nat} (hz:(P.info? e).map (·.zero)=some (some z)) (hK:∀ g,K ⟨(d,.os H.length g 0 len m)::env,b0,H++[(g,.blk n (fl l))]⟩) (ho:o.op=.buildSlice t len parts:=by exact rfl) (h1:P.underlying t=some (.slice e):=by kernel_rfl) (h5:(P.info? e).map (·.size)=some m:=by kernel_rfl) (hm:Nat.ble (len * m) 16777216=true:=by exact rfl) (hlen:Nat.ble len 16777216=true:=by exact rfl)
  (hf:kP (fun i=>some (i * m,m)) ((List.range (len * m)).map fun i=>.c (z.cells[i % z.cells.size]!)) (parts.toList.map fun p=>(p.1,(⟨env,b0,H⟩:AS).eval p.2))=some l:=by exact rfl) (hn:l.length=n:=by exact rfl) (hle:n=len * m:=by exact rfl) (hd:o.dst=some d:=by exact rfl) (hN:Nat.blt d G.N=true:=by exact rfl):eG P G o ⟨env,b0,H⟩ K:=o0 ho h1 h5 hz hm hlen hf hn hle hd hN hK
theorem EL {t u:TypeId} {x:Operand} {a:V} {d:Nat} (hK:K ⟨(d,dL a)::env,b0,H⟩) (ho:o.op=.convert t u x:=by exact rfl) (I:(⟨env,b0,H⟩:AS).eval x=bi a:=by exact rfl) (h1:P.underlying t=some .string:=by kernel_rfl) (hT:zu P u=true:=by kernel_rfl) (hS:a.length≤9223372036854775807:=by first|omega|decide|(dsimp only at *;omega)) (hd:o.dst=some d:=by exact rfl) (hN:Nat.blt d G.N=true:=by exact rfl):eG P G o ⟨env,b0,H⟩ K:=by
 have ⟨e,h2,h3⟩:=sE hT
 exact xE ho I h1 h2 h3 hS hd hN hK
theorem aD {f:FuncId} {xs:Array Operand} {ats:Array TypeId} {args:List CV} {m:CV} {d:Nat} (hA:c4 G.gs P f args m) (hK:K ⟨(d,m)::env,b0,H⟩) (ho:o.op=.call ⟨.value (.func f),xs,ats⟩:=by exact rfl) (hc:aU P f=true:=by kernel_rfl) (he:pe G ⟨env,b0,H⟩ xs.toList args:=by (repeat (first|exact .nil|refine .cons (by first|exact se rfl cZ|exact se rfl J.nil|exact se rfl cN|exact se rfl (cO rfl)|exact se rfl cP|exact gX rfl|exact se rfl J.fn0|exact se rfl iw|exact i4 _ rfl rfl rfl (by simp) (fun _ _=>cZ)) ?_))) (hd:o.dst=some d:=by exact rfl) (hN:Nat.blt d G.N=true:=by exact rfl):eG P G o ⟨env,b0,H⟩ K:=zT ho hc hA he hd hN hK
theorem wR {f:FuncId} {xs:Array Operand} {ats:Array TypeId} {args:List CV} {n m N:Nat} {F:Nat→CV} {d:Nat} (hA:AC G.gs P f [] args (mV n m N F)) (hK:∀ g,K ⟨(d,.os H.length g 0 n m)::env,b0,H++[(g,.blk N F)]⟩) (ho:o.op=.call ⟨.value (.func f),xs,ats⟩:=by exact rfl) (hc:aU P f=true:=by kernel_rfl) (he:pe G ⟨env,b0,H⟩ xs.toList args:=by (repeat (first|exact .nil|refine .cons (by first|exact se rfl cZ|exact se rfl J.nil|exact se rfl cN|exact se rfl (cO rfl)|exact se rfl cP|exact gX rfl|exact se rfl J.fn0|exact se rfl iw|exact i4 _ rfl rfl rfl (by simp) (fun _ _=>cZ)) ?_))) (hd:o.dst=some d:=by exact rfl) (hN:Nat.blt d G.N=true:=by exact rfl):eG P G o ⟨env,b0,H⟩ K:=zU ho hc hA he hd hN hK
theorem mM (i:Nat) {f:FuncId} {xs:Array Operand} {ats:Array TypeId} {args:List CV} {Q:CV→List (Option Nat×av)→Prop} {d:Nat} {x0:Option Nat×av} (hA:AC G.gs P f [x0] args Q) (hK:∀ r H',Q r H'→∃ x r',H'=[x]∧J r r'∧K ⟨(d,r')::env,b0,H.set i x⟩) (hi:H[i]?=some x0:=by exact rfl) (ho:o.op=.call ⟨.value (.func f),xs,ats⟩:=by exact rfl) (hc:aU P f=true:=by kernel_rfl) (he:pe G ⟨env,b0,H⟩ xs.toList args:=by (repeat (first|exact .nil|refine .cons (by first|exact se rfl cZ|exact se rfl J.nil|exact se rfl cN|exact se rfl (cO rfl)|exact se rfl cP|exact gX rfl|exact se rfl J.fn0|exact se rfl iw|exact i4 _ rfl rfl rfl (by simp) (fun _ _=>cZ)) ?_))) (hd:o.dst=some d:=by exact rfl) (hN:Nat.blt d G.N=true:=by exact rfl):kE P G o ⟨env,b0,H⟩ K:=sC ho hc hi hA he hd hN hK
theorem dc (i:Nat) {f:FuncId} {xs:Array Operand} {ats:Array TypeId} {args:List CV} {m:CV} {d:Nat} {x0 x:Option Nat×av} (hA:AC G.gs P f [x0] args fun r H'=>r=m∧H'=[x]) (hK:K ⟨(d,m)::env,b0,H.set i x⟩) (hi:H[i]?=some x0:=by exact rfl) (ho:o.op=.call ⟨.value (.func f),xs,ats⟩:=by exact rfl) (hc:aU P f=true:=by kernel_rfl) (he:pe G ⟨env,b0,H⟩ xs.toList args:=by (repeat (first|exact .nil|refine .cons (by first|exact se rfl cZ|exact se rfl J.nil|exact se rfl cN|exact se rfl (cO rfl)|exact se rfl cP|exact gX rfl|exact se rfl J.fn0|exact se rfl iw|exact i4 _ rfl rfl rfl (by simp) (fun _ _=>cZ)) ?_))) (hd:o.dst=some d:=by exact rfl) (hN:Nat.blt d G.N=true:=by exact rfl):kE P G o ⟨env,b0,H⟩ K :=
 mM i hA (fun _ _ ⟨e1,e2⟩=>⟨x,m,e2,e1 ▸ cZ,hK⟩) hi ho hc he hd hN
theorem DJ (i:Nat) {f:FuncId} {xs:Array Operand} {ats:Array TypeId} {args:List CV} {n m N:Nat} {F:Nat→CV} {d:Nat} {x0:Option Nat×av} (hA:AC G.gs P f [x0] args (mV n m N F)) (hK:∀ g,K ⟨(d,.os i g 0 n m)::env,b0,H.set i (g,.blk N F)⟩) (hi:H[i]?=some x0:=by exact rfl) (ho:o.op=.call ⟨.value (.func f),xs,ats⟩:=by exact rfl) (hc:aU P f=true:=by kernel_rfl) (he:pe G ⟨env,b0,H⟩ xs.toList args:=by (repeat (first|exact .nil|refine .cons (by first|exact se rfl cZ|exact se rfl J.nil|exact se rfl cN|exact se rfl (cO rfl)|exact se rfl cP|exact gX rfl|exact se rfl J.fn0|exact se rfl iw|exact i4 _ rfl rfl rfl (by simp) (fun _ _=>cZ)) ?_))) (hd:o.dst=some d:=by exact rfl) (hN:Nat.blt d G.N=true:=by exact rfl):kE P G o ⟨env,b0,H⟩ K:=zh ho hc hi hA he hd hN hK
theorem dC (m:Nat) {t:TypeId} {p q:Operand} {i off n:Nat} {g:Option Nat} {f:Nat→CV} {c:CV} {l:List CV} (hK:K ⟨env,b0,H.set i (g,.blk n (jG f off l))⟩) (ho:o.op=.store t p q:=by exact rfl) (I:(⟨env,b0,H⟩:AS).eval p=.op i g off:=by exact rfl) (hH:H[i]?=some (g,.blk n f):=by exact rfl) (hy:(⟨env,b0,H⟩:AS).eval q=c:=by first|exact lY rfl|exact lZ rfl rfl rfl|exact l5 rfl) (hl:bC c=some l:=by exact rfl) (hm:l.length=m:=by exact rfl) (h5:(P.info? t).map (·.size)=some m:=by kernel_rfl) (hleaf:l.all dx=true:=by exact rfl) (hn:off+m≤n:=by first|decide|omega|(dsimp only at *;omega)) (hd:o.dst=none:=by exact rfl):kE P G o ⟨env,b0,H⟩ K :=
 sB ho I hH hy hl h5 hm hleaf hn _ (fun _ _=>cZ) hd hK
theorem ak (m:Nat) (F:Nat→CV) {t:TypeId} {p q:Operand} {i off n:Nat} {g:Option Nat} {f:Nat→CV} {c:CV} {l:List CV} (hF:∀ j,j<n→J (jG f off l j) (F j)) (hK:K ⟨env,b0,H.set i (g,.blk n F)⟩) (ho:o.op=.store t p q:=by exact rfl) (I:(⟨env,b0,H⟩:AS).eval p=.op i g off:=by exact rfl) (hH:H[i]?=some (g,.blk n f):=by exact rfl) (hy:(⟨env,b0,H⟩:AS).eval q=c:=by first|exact lY rfl|exact lZ rfl rfl rfl|exact l5 rfl) (hl:bC c=some l:=by exact rfl) (hm:l.length=m:=by exact rfl) (h5:(P.info? t).map (·.size)=some m:=by kernel_rfl) (hleaf:l.all dx=true:=by exact rfl) (hn:off+m≤n:=by first|decide|omega|(dsimp only at *;omega)) (hd:o.dst=none:=by exact rfl):kE P G o ⟨env,b0,H⟩ K :=
 sB ho I hH hy hl h5 hm hleaf hn F hF hd hK
theorem de (m:Nat) {d:Nat} {t:TypeId} {i off n:Nat} {g:Option Nat} {f:Nat→CV} (h:look s.env s.b d=.op i g off:=by exact rfl) (hH:Holds s i g n f:=by first|exact .inl rfl|exact .inr rfl) (hn:off+m≤n:=by first|decide|omega|(dsimp only at *;omega)) (hT:wO P t m true=true:=by kernel_rfl):tk P G s (.cell d t) (.agg m fun j=>f (off+j)):=by
 have ⟨ds,h1,ha,h5⟩:=oR hT
 exact uY h hH h1 ha h5 hn
theorem bn {t:Nat} {c:CV} (h:s.eval (.tmp t)=c:=by first|exact lY rfl|exact lZ rfl rfl rfl|exact l5 rfl):tk P G s (.tmp t) c:=cR h
theorem d4 {fn:Func} {e:Exit} {v m:CV} (hres:eI P G fn s v:=by first|exact fo rfl bn|exact be rfl bn bn|exact Dh rfl bn bn bn|exact Dg rfl bn bn bn bn|exact bo rfl) (hv:J v m:=by first|exact cZ|exact J.nil) (he:e=.ret∨e=.normal:=by first|exact .inl rfl|exact .inr rfl):fB P G fn (fun r H=>r=m∧H=[]) e s:=zP he hres hv
theorem aH {α:Type} {k:Nat} {φ:α→Prop} {μ:α→Nat} {D:List Nat} {M:α→List (Nat×CV)} {Hp:α→List (Option Nat×av)} {b1:Nat→CV} (p':α) (h1:φ p') (h2:μ p'<k) (h5:cA s.env s.b (M p'):=by (repeat (first|exact cA.nil|refine cA.cons cZ ?_|refine cA.cons (cI O) ?_))) (h7:ar (s.H.take (Hp p').length) (Hp p'):=by (repeat (first|exact ar.nil|refine ar.same ?_|refine ar.blk rfl (fun j hj=>by rcases j with _|_|_|_|_|_|_|_|j<;>first|exact cZ|exact cI O|omega) ?_)))
  (h3:n9 D b1 s.b:=by first|exact .refl|exact .nest .refl rfl rfl|exact .nest (.nest .refl rfl rfl) rfl rfl|exact .nest (.nest (.nest .refl rfl rfl) rfl rfl) rfl rfl|(repeat (first|exact .refl|refine .nest ?_ rfl rfl|refine n9.look2 ?_ rfl))) (h4:(s.env.all fun x=>D.any (Nat.beq x.1))=true:=by exact rfl) (h6:(Hp p').length≤s.H.length:=by exact FS rfl) :
  ∃ p',φ p'∧μ p'<k∧n9 D b1 s.b∧(s.env.all fun x=>D.any (Nat.beq x.1))=true∧cA s.env s.b (M p')∧(Hp p').length≤s.H.length∧ar (s.H.take (Hp p').length) (Hp p'):=⟨p',h1,h2,h3,h4,h5,h6,h7⟩
theorem jg {α:Type} {φ:α→Prop} {D:List Nat} {M:α→List (Nat×CV)} {Hp:α→List (Option Nat×av)} {b1:Nat→CV} (p':α) (h1:φ p') (h5:cA s.env s.b (M p'):=by (repeat (first|exact cA.nil|refine cA.cons cZ ?_|refine cA.cons (cI O) ?_))) (h7:ar (s.H.take (Hp p').length) (Hp p'):=by (repeat (first|exact ar.nil|refine ar.same ?_|refine ar.blk rfl (fun j hj=>by rcases j with _|_|_|_|_|_|_|_|j<;>first|exact cZ|exact cI O|omega) ?_)))
  (h3:n9 D b1 s.b:=by first|exact .refl|exact .nest .refl rfl rfl|exact .nest (.nest .refl rfl rfl) rfl rfl|exact .nest (.nest (.nest .refl rfl rfl) rfl rfl) rfl rfl|(repeat (first|exact .refl|refine .nest ?_ rfl rfl|refine n9.look2 ?_ rfl))) (h4:(s.env.all fun x=>D.any (Nat.beq x.1))=true:=by exact rfl) (h6:(Hp p').length≤s.H.length:=by exact FS rfl) :
  ∃ p',φ p'∧n9 D b1 s.b∧(s.env.all fun x=>D.any (Nat.beq x.1))=true∧cA s.env s.b (M p')∧(Hp p').length≤s.H.length∧ar (s.H.take (Hp p').length) (Hp p'):=⟨p',h1,h3,h4,h5,h6,h7⟩
end
section
variable {G:Gh} {o:Oper} {s:AS}
def AQ:CV→Option Nat
 | .err k=>some k
 | .c .nilIface=>some 0
 | _=>none
def AP (op:BinOp) (n:Nat):Option Bool:=match op with|.eql=>some (decide (n=0))|.neq=>some (decide (n≠0))|_=>none
theorem Fq {op:BinOp} {x:Operand} {u:TypeId} {n:Nat} {z:Bool} (ho:o.op=.binOp op 37 x (.const .nilIface) u:=by exact rfl) (I:AQ (s.eval x)=some n:=by exact rfl) (hz:AP op n=some z:=by exact rfl):aN prog G o s (.c (.bool z)):=by
 unfold AQ at I
 cases op<;>simp only [AP,F8,reduceCtorEq] at hz
 all_goals subst hz
 ·split at I
  ·rename_i h;cases I;exact BP ho h
  ·rename_i h;cases I;exact yX ho h
  ·cases I
 ·split at I
  ·rename_i h;cases I;exact BF ho h
  ·rename_i h;cases I;exact yO ho h
  ·cases I
end
section
set_option maxHeartbeats 1000000
section
variable {P:Program} {G:Gh} {ops:Array Oper} {o:Oper} {s:AS} {K:AS→Prop} {t u:TypeId} {x y:Operand} {k:IntKind}
end
section
variable {P:Program} {G:Gh} {ops:Array Oper} {o:Oper} {env:List (Nat×CV)} {b0:Nat→CV} {H:List (Option Nat×av)} {K:AS→Prop} {t u:TypeId} {p q:Operand}
end
section
variable {P:Program} {G:Gh} {ops:Array Oper} {o:Oper} {s:AS} {K:AS→Prop} {n:Nat} {R:Exit→AS→Prop}
end
section
variable {P:Program} {G:Gh} {ops:Array Oper} {o:Oper} {s:AS} {env:List (Nat×CV)} {b0:Nat→CV} {H:List (Option Nat×av)} {K:AS→Prop} {i n:Nat} {t:d7} {R:Exit→AS→Prop}
end
end
def JV (_:Nat):Prop:=True
theorem jv (k:Nat) {n:Nat} (_:JV n) (_:Nat.beq (Nat.mod n 10) k=true:=by exact rfl):JV (Nat.div n 10):=trivial
structure JB (B:Prop):Prop where v:B
theorem U (n:Nat) {A B:Prop} (b:B) (h:JV n→JB B→A:=by
 intro c b
 repeat (first|(replace c:=jv 1 c;refine jq CR ?_)|(replace c:=jv 2 c;refine jq E8 ?_)|(replace c:=jv 3 c;refine jq E7 ?_)|(replace c:=jv 4 c;refine Fr ?_)|(replace c:=jv 5 c;refine jN ?_)|(replace c:=jv 6 c;refine dU ?_)|(replace c:=jv 7 c;refine oU ?_)|(replace c:=jv 8 c;refine Fl ?_)|(replace c:=jv 9 c;refine jq yd ?_)|(replace c:=jv 0 c;first|(replace c:=jv 1 c;refine jS ?_)|(replace c:=jv 2 c;refine jB ?_)|(replace c:=jv 3 c;refine jq E6 ?_)|(replace c:=jv 4 c;refine jq Cd ?_)|(replace c:=jv 5 c;refine gj lX ?_)|(replace c:=jv 6 c;refine jq uy ?_)|(replace c:=jv 7 c;refine eF CR ?_)|(replace c:=jv 8 c;refine DB ?_)|(replace c:=jv 9 c;refine jq (cU 0 1 false) ?_)|(replace c:=jv 0 c;first|(replace c:=jv 1 c;refine jq (cU 1 1 false) ?_)|(replace c:=jv 2 c;refine Fs ?_)|(replace c:=jv 3 c;refine Fu ?_)|(replace c:=jv 4 c;refine Fw ?_)|(replace c:=jv 5 c;refine jq DE ?_)|(replace c:=jv 6 c;refine Fk ?_)|(replace c:=jv 7 c;refine jq iu ?_)|(replace c:=jv 8 c;refine eF E8 ?_)|(replace c:=jv 9 c;refine jq wP ?_)|(replace c:=jv 0 c;first|(replace c:=jv 1 c;refine jq (cU 2 1 false) ?_)|(replace c:=jv 2 c;refine Fm ?_)|(replace c:=jv 3 c;refine hZ ?_)|(replace c:=jv 4 c;refine Fv ?_)|(replace c:=jv 5 c;refine sF ?_)|(replace c:=jv 6 c;refine jX ?_)|(replace c:=jv 7 c;refine jR ?_)|(replace c:=jv 8 c;refine d4 (hv:=?_))|(replace c:=jv 9 c;refine Ft ?_)|(replace c:=jv 0 c;first|(replace c:=jv 1 c;refine yc lX ?_)|(replace c:=jv 2 c;refine eF E7 ?_)|(replace c:=jv 3 c;refine eF yd ?_)|(replace c:=jv 4 c;refine jq EG ?_)|(replace c:=jv 5 c;refine eF Cd ?_)|(replace c:=jv 6 c;refine jq DF ?_)|(replace c:=jv 7 c;refine eF uy ?_)|(replace c:=jv 8 c;refine EM ?_)|(replace c:=jv 9 c;refine eF iu ?_)|(replace c:=jv 0 c;first|(replace c:=jv 1 c;refine eF E6 ?_)|(replace c:=jv 2 c;refine jq EH ?_)|(replace c:=jv 3 c;refine eF DE ?_)|(replace c:=jv 4 c;refine cD CR ?_)|(replace c:=jv 5 c;refine jq Fq ?_)|(replace c:=jv 6 c;refine jq Fp ?_)|(replace c:=jv 7 c;refine Fj ?_)|(replace c:=jv 8 c;refine jq (Cc .i64 .u8) ?_)|(replace c:=jv 9 c;refine eF (cU 0 1 false) ?_)|(replace c:=jv 0 c;first|(replace c:=jv 1 c;refine jq Fn ?_)|(replace c:=jv 2 c;refine jq (iu (i:=0)) ?_)|(replace c:=jv 3 c;refine eF DD ?_)|(replace c:=jv 4 c;refine eF (iv 3) ?_)|(replace c:=jv 5 c;refine jq (cU 3 1 false) ?_)|(replace c:=jv 6 c;refine jq (cU 5 1 false) ?_)|(replace c:=jv 7 c;refine jq (cU 4 1 false) ?_)|(replace c:=jv 8 c;refine eF (cU 1 1 false) ?_)|(replace c:=jv 9 c;refine cD Cd ?_)|(replace c:=jv 0 c;first|(replace c:=jv 1 c;refine cD (cU 0 1 false) ?_)|(replace c:=jv 2 c;refine jq (cU 6 1 false) ?_)|(replace c:=jv 3 c;refine eF EI ?_)|(replace c:=jv 4 c;refine Fi ?_)|(replace c:=jv 5 c;refine Ca lX ?_)|(replace c:=jv 6 c;refine cD (cU 1 1 false) ?_)|(replace c:=jv 7 c;refine jq (EE .i64) ?_)|(replace c:=jv 8 c;refine jq ux ?_)|(replace c:=jv 9 c;refine jq EF ?_)|(replace c:=jv 0 c;first|(replace c:=jv 1 c;refine jq DD ?_))))))))))
 exact b.v):A:=h trivial ⟨b⟩
section
variable {gs:List Nat} [du gs]
theorem nS {gs:List Nat} (l:V) (hl:l.length≤100000000000):c4 gs prog 75 [dL l] (dL l):=by
 refine ag 8 func75 fun _ _ _ _=>?_;refine U 167516 ?_;refine jL (aA rfl) rfl rfl rfl underlying58 rfl rfl (fun h357=>?_) ?_
 ·refine U 51690005 ?_
  refine jR (hZ (d4 (hv:=J.nilS' h357)))
 ·refine U 68103005 ?_
  refine ay (bD 0 1 kV fun p1=>?_)
  refine U 1 ?_
  refine aL (bV (l:=[]) rfl rfl rfl (F4 _) (fun j hj=>absurd hj (F3 j)) (eT rfl) rfl (fun j hj=>by simp only [Ie];exact cZ) underlying58 mL tE kV u3 rfl (by (simp;omega)) (fun j hj=>rfl) rfl rfl (fun p2=>?_))
  refine U 51 ?_;refine jE (freeze 0 rfl) ?_;refine jE (po 2 ([]++l) rfl rfl (by rfl) rfl) ?_
  refine jR (d4 (hv:=J.bs (List.nil_append l)))
def dl (a b:UInt8):Int:=if a.toNat<b.toNat then -1 else if b.toNat<a.toNat then 1 else 0
def cH:V→V→Int
 | [],[]=>0
 | [],_::_=>-1
 | _::_,[]=>1
 | a::l,b::r=>if dl a b≠0 then dl a b else cH l r
theorem uQ {l r:V} {i:Nat} (h1:i<l.length) (h2:i<r.length):cH (l.drop i) (r.drop i)=if dl (l.getD i 0) (r.getD i 0)≠0 then dl (l.getD i 0) (r.getD i 0) else cH (l.drop (i+1)) (r.drop (i+1)):=by
 rw [Gi h1,Gi h2,cH]
 simp [List.getD,h1,h2]
def zD (l:List Int) (x:Int):Int:=if x ∈ l then (l.idxOf x:Nat) else -1
theorem rz {gs:List Nat} (l:List Int) (x:Int):c4 gs prog 184 [CS l,.c (.int .i64 x)] (.c (.int .i64 (zD l x))):=by
 refine xZ 0 rfl fun hlen=>?_;refine ag 19 func184 fun _ _ _ _=>?_;refine U 20513167516 ?_;refine aG (α:=Nat) [4,5,8,9,10,11,12,13,14,15,16,17,18] (fun i=>[(8,.c (.int .i64 (i:Nat)))]) (fun _=>[]) (fun i=>i≤l.length∧x ∉ l.take i) (fun i=>l.length-i) (0) ?_ (fun _=>rfl) ?_ ?_ ?_
 exact ⟨by omega,by simp⟩
 ·(repeat (first|exact cA.nil|refine cA.cons cZ ?_))
 ·(repeat (exact ar.nil))
 ·rintro i ⟨hi,he⟩
  refine U 7526 ?_;refine aaa (fun h97=>?_) fun h97=>?_
  ·refine U 8000700051684000200020006000 ?_;refine cI ?_
   have:l.take i=l:=Gl O
   rw [this] at he
   unfold zD
   rw [FN he]
  refine U 526070011165116207810 ?_;refine aX (fun h98=>?_) fun h98=>?_
  ·refine U 80003000500030003000500070005116 ?_;refine cI ?_
   have hlt:i<l.length:=by omega
   have e:l.getD i 0=l[i]:=by simp [List.getD,hlt]
   have hm:x ∈ l:=by rw [h98,e];exact Gv hlt
   have I:l.idxOf x=i:=by
    have e2:l=l.take i++l[i]::l.drop (i+1):=by rw [← Gi hlt,Hs]
    rw [e2,List.idxOf_append,FN he,h98,e]
    rw [← Gi hlt,Gi hlt,List.idxOf_cons_self,F6]
    omega
   unfold zD
   rw [FO hm,I]
  refine U 8519200840010 ?_;refine aH (i+1) ?_ ?_
  ·exact ⟨by omega,fun hm=>by
    rw [FV O] at hm
    rcases HE.1 hm with h|h
    exact he h
    ·have e:l.getD i 0=l[i]:=by simp [List.getD,show i<l.length by omega]
     simp at h
     rw [e] at h98
     exact h98 h⟩
  omega
theorem mS {gs:List Nat} (l:List Int) (x:Int):c4 gs prog 175 [CS l,.c (.int .i64 x)] (.c (.bool (decide (x ∈ l)))):=by
 refine ag 9 func175 fun _ _ _ _=>?_;refine U 116516 ?_
 refine ay (aD (rz l x) ?_)
 refine U 80007000512 ?_;refine cB ?_
 unfold zD
 split<;>simp_all<;>omega
def oD (l:V) (i:Nat):V:=(List.range l.length).map fun j=>if j<i∨l.length≤j+i then l.reverse.getD j 0 else l.getD j 0
theorem fm {l:V} {i j:Nat} (h:j<l.length):(oD l i).getD j 0=if j<i∨l.length≤j+i then l.reverse.getD j 0 else l.getD j 0:=by simp [oD,List.getD,h]
theorem si {l:V} {j:Nat} (h:j<l.length):l.reverse.getD j 0=l.getD (l.length-1-j) 0:=by
 simp [List.getD,H9 h,show l.length-1-j<l.length by omega]
theorem vF {l:V} {i:Nat} (h:l.length≤2 * i+1):oD l i=l.reverse:=by
 apply Hf
 ·simp [oD]
 ·intro j h1 h2
  have hj:j<l.length:=by simpa using h2
  have e:=fm (i:=i) hj
  simp only [FJ,FW h1,FW h2,FW hj,G5] at e
  rw [e]
  split
  rfl
  ·have:j=l.length-1-j:=by omega
   rw [If]
   congr 1
theorem tU (l:V):oD l 0=l:=by
 apply Hf
 ·simp [oD]
 ·intro j h1 h2
  have e:=fm (i:=0) h2
  simp only [FJ,FW h1,FW h2,G5] at e
  rw [e,jK]
def ES (g:Option Nat) (l:V):CV→List (Option Nat×av)→Prop:=fun r H'=>r=.c (.tuple #[])∧H'=[(g,.blk l.length (bX l))]
theorem kH {gs:List Nat} (g:Option Nat) (l:V) (hl:l.length≤100000000000):AC gs prog 134 [(g,.blk l.length (bX l))] [.os 0 g 0 l.length 1] (ES g l.reverse):=by
 refine ag 28 func134 fun _ _ _ _=>?_;refine U 205119316 ?_;refine aG (α:=Nat) [2,3,7,8,9,10,11,12,13,14,15,16,17,18,19,20,21,22,23,24,25,26,27] (fun i=>[(2,.c (.int .i64 (i:Nat))),(3,.c (.int .i64 ((l.length:Int)-1-i)))]) (fun i=>[(g,.blk l.length (bX (oD l i)))]) (fun i=>2 * i≤l.length+1) (fun i=>l.length-i) (0) ?_ (fun _=>rfl) ?_ ?_ ?_
 show 2 * 0≤l.length+1;omega
 exact .cons cZ (.cons (cI O) .nil)
 exact .blk rfl (fun j hj=>by rw [tU];exact cZ) .nil
 ·rintro i (hi:2 * i≤l.length+1)
  refine U 521167 ?_;refine aaa (fun h484=>?_) fun h484=>?_
  ·refine U 4000200020006000 ?_
   exact aY (.inr rfl) _ _ [0] T rfl (bo rfl) ⟨rfl,by show [(g,av.blk l.length (bX (oD l i)))]=_;rw [vF O,Ii]⟩
  refine U 207810 ?_;refine ko (.rd 0 (.rd 1 (.rd 2 (.rd 3 (.rd 4 (.rd 5 (.rd 6 (.rd 7 (.rd 8 (.rd 9 (.rd 10 (.rd 11 (.rd 12 (.one 13 (.rd 14 (.one 15 .done)))))))))))))))) ?_;refine U 400000400000400000400000400000400000 ?_;refine cD (iu (i:=(l.length-1-i)) (hz:=by omega)) ?_;refine U 40000040000050000000 ?_;refine cD (iu (i:=i) (hz:=by omega)) ?_;refine Ca lX ?_;refine cD (iu (i:=i) (hz:=by omega)) ?_
  refine fT (dC 1 ?_)
  refine cD (iu (i:=(l.length-1-i)) (hz:=by omega)) ?_
  refine fT (dC 1 ?_)
  refine U 851191912008400700000 ?_
  refine aH (i+1) ?_ ?_ (h7:=?_)
  show 2 * (i+1)≤l.length+1;omega
  omega
  ·exact .blk rfl (fun j hj=>by
    refine (J.of_eq (pk _ _ _ j)).trans ?_
    have hj:j<l.length:=hj
    have e3:=fm (i:=i+1) hj
    have ri:=@si l i O
    have rj:=@si l (l.length-1-i) O
    have ei:=@fm l i i O
    have ej:=@fm l i (l.length-1-i) O
    rw [jK] at ei ej
    rw [show l.length-1-(l.length-1-i)=i by omega] at rj
    show J (if j=_ then _ else jG (bX (oD l i)) i [_] j) _
    rw [pk]
    unfold bX
    by_cases h1:j=l.length-1-i
    ·rw [FO h1]
     subst h1
     exact cI (by rw [ei,e3,FO (.inr O),rj])
    ·rw [FN h1]
     by_cases h2:j=i
     ·rw [FO h2]
      subst h2
      exact cI (by rw [ej,e3,FO (.inl O),ri])
     ·rw [FN h2]
      have e0:=fm (i:=i) hj
      refine cI ?_
      rw [e0,e3]
      by_cases h3:j<i∨l.length≤j+i
      ·rw [FO h3,jP]
      ·rw [FN h3,jK]) .nil
end
def cL (t:Int):Bool:=decide (t=48∨t=49∨(160≤t∧t<176))
def jZ:List Int:=[1,2,3,4,5,6,10,12,24]
def bW (t:Int):Bool:=cL t || decide ((1≤t∧t≤6)∨t=10∨t=12∨t=24)
theorem kI (t:Int):decide (t ∈ jZ)=decide ((1≤t∧t≤6)∨t=10∨t=12∨t=24):=by
 refine decide_eq_decide.2 ?_
 simp only [jZ,Gb,GA,or_false]
 omega
def b8 (n:Nat):UInt8:=UInt8.ofNat n
theorem rT (n:Nat):(b8 n).toNat=n % 256:=by
 unfold b8
 rw [GG]
def k6 (n:Nat):V :=
 if n<128 then [b8 n] else if n<256 then [129,b8 n] else if n<65536 then [130,b8 (n / 256),b8 n]
 else if n<16777216 then [131,b8 (n / 65536),b8 (n / 256),b8 n] else [132,b8 (n / 16777216),b8 (n / 65536),b8 (n / 256),b8 n]
theorem oN (n:Nat):1≤(k6 n).length∧(k6 n).length≤5:=by
 unfold k6
 split
 ·simp
 ·split
  ·simp
  ·split
   ·simp
   ·split<;>simp
def cS (tag:Int) (body:V):V:=UInt8.ofNat tag.toNat::(k6 body.length++body)
def Fb (l:V):Nat:=l.foldl (fun n c=>n * 256+c.toNat) 0
structure Ms where
 e:Nat
 n:Nat
 rest:V
def Dz (b:V):Ms :=
 if b.length=0 then ⟨2,0,[]⟩ else
 let c:=(b.getD 0 0).toNat
 let r:=b.drop 1
 if c≤127 then ⟨0,c,r⟩ else
 if c=128∨132<c then ⟨4,0,[]⟩ else
 if r.length<c-128 then ⟨2,0,[]⟩ else
 if Fb (r.take (c-128))≤127∨(r.getD 0 0).toNat=0 then ⟨4,0,[]⟩ else ⟨0,Fb (r.take (c-128)),r.drop (c-128)⟩
structure Nx where
 e:Nat
 tag:Nat
 body:V
 rest:V
def dQ (b:V):Nx :=
 if b.length=0 then ⟨2,0,[],[]⟩ else
 if bW ((b.getD 0 0).toNat:Nat)=false then ⟨5,0,[],[]⟩ else
 let m:=Dz (b.drop 1)
 if m.e≠0 then ⟨m.e,0,[],[]⟩ else
 if 65530<m.n then ⟨3,0,[],[]⟩ else
 if m.rest.length<m.n then ⟨2,0,[],[]⟩ else ⟨0,(b.getD 0 0).toNat,m.rest.take m.n,m.rest.drop m.n⟩
def AJ (rec:Nat→V→Nat×Nat) (set:Bool) (lv:Nat):Nat→V→V→Nat→Nat×Nat
 | 0,_,_,dp=>(dp,0)
 | fuel+1,b,last,dp =>
  if b.length=0 then (dp,0) else
  if (dQ b).e≠0 then (0,(dQ b).e) else
  if lv≤1 then (0,6) else
  if (rec (dQ b).tag (dQ b).body).2≠0 then (0,(rec (dQ b).tag (dQ b).body).2) else
  if set=true∧Op.bytesLess (b.take (b.length-(dQ b).rest.length)) last=true then (0,7) else
  AJ rec set lv fuel (dQ b).rest (b.take (b.length-(dQ b).rest.length)) (max dp ((rec (dQ b).tag (dQ b).body).1+1))
def lE:Nat→Nat→V→Nat×Nat
 | 0,_,_=>(1,0)
 | lv+1,tag,body=>if cL tag=false then (1,0) else AJ (lE lv) (decide (tag=49)) (lv+1) body.length body [] 1
def iS (b:V):Nat×Nat :=
 if 65536<b.length then (0,3) else
 if (dQ b).e≠0 then (0,(dQ b).e) else
 if 0<(dQ b).rest.length then (0,4) else lE 16 (dQ b).tag (dQ b).body
end Am
end Go.Proofs.YtnijncmifjnifaaGreatDoor
namespace Go.Proofs.YtnijncmifjnifaaGreatDoor
open Go.RowKit Go.Extern.Stop Go.Stop Go.Extern
theorem qa (v:Value) (w:World):(callFunc 73 #[.iface 252 v]).run prog w=.ok (.value (.iface 167 (.agg #[.pointer (some ⟨31,252,none⟩)]))) w:=by kernel_rfl
theorem jj (w:World):(callFunc 223 #[.agg #[.pointer (some ⟨31,252,none⟩)]]).run prog w=.ok (.value (.bool true)) w:=by kernel_rfl
theorem ep (v : Value) (w : World) : (Go.method 388 167 v "Comparable").run prog w = .ok (223, v) w := by kernel_rfl
theorem wW:(prog.info? 252).map (·.comparable)=some true:=by kernel_rfl
theorem wU:(prog.info? 276).map (·.size)=some 1:=by kernel_rfl
theorem Dw (v:Value) (xT:TypeId) (w:World):(Instr.typeAssert (.iface 252 v) xT 169 true).run prog w=.ok (.tuple #[.nilIface,.bool false]) w:=run_typeAssert_lacksB underlying169 (by kernel_rfl) (by kernel_rfl) v xT w
theorem uq (v:Value) (xT:TypeId) (w:World):(Instr.typeAssert (.iface 252 v) xT 172 true).run prog w=.ok (.tuple #[.nilIface,.bool false]) w:=run_typeAssert_lacksB underlying172 (by kernel_rfl) (by kernel_rfl) v xT w
theorem rm (v:Value) (xT:TypeId) (w:World):(Instr.typeAssert (.iface 252 v) xT 173 true).run prog w=.ok (.tuple #[.nilIface,.bool false]) w:=run_typeAssert_lacksB underlying173 (by kernel_rfl) (by kernel_rfl) v xT w
theorem zw (a:Addr) (w:World) :
  Calls prog 40 #[.iface 252 (.pointer (some a)),.iface 252 (.pointer (some a))] w fun e w'=>e=.returned (.bool true)∧w=w':=by
 have ⟨i,hi,hcmp⟩:=FM.1 wW
 have ⟨j,hj,hjs⟩:=FM.1 wU
 have tT:=qa
 have cT:=jj
 have mR:=ep
 have heq:=run_eql_iface_ptr_same (P:=prog) w a underlying37 underlying252 hi hcmp hj
 go_enter func40,ntmps40
 go_wp2
 refine wp_loop_rounds 1 ?_
 rw [rounds_succ]
 go_wp2
 go_ret
 exact ⟨rfl,rfl⟩
theorem wS (a b:Addr) (ca cb:Array Value) (ta tb:TypeId) (w:World) (hne:a≠b) (ha:w.heap[a.block]?=some (.cells ca ta (0,0))) (hb:w.heap[b.block]?=some (.cells cb tb (0,0))) :
  Calls prog 40 #[.iface 252 (.pointer (some a)),.iface 252 (.pointer (some b))] w fun e w'=>e=.returned (.bool false)∧w=w':=by
 have ⟨i,hi,hcmp⟩:=FM.1 wW
 have ⟨j,hj,hjs⟩:=FM.1 wU
 have tT:=qa
 have cT:=jj
 have mR:=ep
 have nE:=Dw
 have uE:=uq
 have vE:=rm
 have heq:=run_eql_iface_ptr_other (P:=prog) w underlying37 underlying252 hi hcmp hj (by rw [hjs];decide) hne ha hb
 go_enter func40,ntmps40
 go_wp2
 refine wp_loop_rounds 1 ?_
 rw [rounds_succ]
 go_wp2
 go_ret
 exact ⟨rfl,rfl⟩
theorem AU {w:World} {al:List Addr} (h:At w al) (m k:Nat) (hm0:m≠0) (hm:m≤28) (hk:k<28) :
  Calls prog 40 #[ev al m,ev al (k+1)] w fun e w'=>e=.returned (.bool (decide (m=k+1)))∧w=w':=by
 have hl:al.length=28:=h.len.trans (by rw [cw.eq];rfl)
 obtain ⟨a,ha⟩:∃ a,al[m-1]?=some a:=⟨al[m-1],FW O⟩
 obtain ⟨b,hb⟩:∃ b,al[k]?=some b:=⟨al[k],FW O⟩
 have e1:ev al m=.iface 252 (.pointer (some a)):=by simp [ev,hm0,ha]
 have e2:ev al (k+1)=.iface 252 (.pointer (some b)):=by simp [ev,hb]
 rw [e1,e2]
 by_cases hmk:m=k+1
 ·subst hmk
  simp only [GY] at ha
  obtain rfl:=Ga (ha.symm.trans hb)
  simp only [decide_true]
  exact zw a w
 ·have hne:a≠b:=by
   intro e
   subst e
   have all:∀ i,i<28→((fz gs)[i]?).any (fun g=>(iB gs).contains g)=true:=by decide
   have get:∀ i,i<28→∃ g,(fz gs)[i]?=some g∧g ∈ iB gs:=fun i hi=>by
    have h1:=all i hi
    cases h2:(fz gs)[i]? with
    | none=>rw [h2] at h1;cases h1
    | some g=>rw [h2] at h1;exact ⟨g,rfl,G0.1 h1⟩
   obtain ⟨g1,k1,k2⟩:=get (m-1) O
   have ⟨g2,k3,k4⟩:=get k hk
   have:=h.nd (m-1) k g1 g2 k1 k2 k3 k4 (ha.trans hb.symm)
   omega
  simp only [hmk,Im]
  obtain ⟨ca,ta,h1⟩:=h.row a (Gy ha)
  obtain ⟨cb,tb,h2⟩:=h.row b (Gy hb)
  exact wS a b ca cb ta tb w hne h1 h2
end Go.Proofs.YtnijncmifjnifaaGreatDoor
namespace Go.Proofs.YtnijncmifjnifaaGreatDoor
open Go.RowKit
def AY (al:List Addr):Array Value:=#[ev al 1,ev al 2,ev al 3,ev al 4,ev al 5,ev al 6,ev al 7,ev al 8,ev al 9,ev al 10,ev al 11,ev al 12,ev al 13,ev al 14,ev al 15,ev al 16,ev al 17,ev al 18,ev al 19,ev al 20,ev al 21,ev al 22,ev al 23,ev al 24,ev al 25,ev al 26,ev al 27,ev al 28]
theorem zL (al:List Addr) (k:Nat) (hk:k<28):(AY al)[k]?=some (ev al (k+1)):=by
 have:∀ k,k<28→(AY al)[k]?=some (ev al (k+1)):=by
  intro k hk
  match k,hk with
  | 0,_=>rfl
  | 1,_=>rfl
  | 2,_=>rfl
  | 3,_=>rfl
  | 4,_=>rfl
  | 5,_=>rfl
  | 6,_=>rfl
  | 7,_=>rfl
  | 8,_=>rfl
  | 9,_=>rfl
  | 10,_=>rfl
  | 11,_=>rfl
  | 12,_=>rfl
  | 13,_=>rfl
  | 14,_=>rfl
  | 15,_=>rfl
  | 16,_=>rfl
  | 17,_=>rfl
  | 18,_=>rfl
  | 19,_=>rfl
  | 20,_=>rfl
  | 21,_=>rfl
  | 22,_=>rfl
  | 23,_=>rfl
  | 24,_=>rfl
  | 25,_=>rfl
  | 26,_=>rfl
  | 27,_=>rfl
  | k+28,h=>omega
 exact this k hk
set_option maxRecDepth 100000 in
theorem zb {w:World} {al:List Addr} (h:At w al) (m:Nat) (hm:m≤28) :
  Calls prog 14 #[ev al m] w fun e w'=>e=.returned (.int .i64 m)∧Below w.heap.size w w':=by
 by_cases h0:m=0
 ·subst h0
  have e0:decide ((0:Nat)=0)=true:=rfl
  go_enter func14,ntmps14
  go_wp2
  go_ret
  exact ⟨rfl,Below.refl _ _⟩
 ·have hd:decide (m=0)=false:=by simpa using h0
  have g0:w.cell? ⟨2,0,none⟩=some (ev al 1):=h.var 0 _ rfl T
  have g1:w.cell? ⟨3,0,none⟩=some (ev al 2):=h.var 1 _ rfl T
  have g2:w.cell? ⟨4,0,none⟩=some (ev al 3):=h.var 2 _ rfl T
  have g3:w.cell? ⟨5,0,none⟩=some (ev al 4):=h.var 3 _ rfl T
  have g4:w.cell? ⟨6,0,none⟩=some (ev al 5):=h.var 4 _ rfl T
  have g5:w.cell? ⟨7,0,none⟩=some (ev al 6):=h.var 5 _ rfl T
  have g6:w.cell? ⟨8,0,none⟩=some (ev al 7):=h.var 6 _ rfl T
  have g7:w.cell? ⟨9,0,none⟩=some (ev al 8):=h.var 7 _ rfl T
  have g8:w.cell? ⟨10,0,none⟩=some (ev al 9):=h.var 8 _ rfl T
  have g9:w.cell? ⟨11,0,none⟩=some (ev al 10):=h.var 9 _ rfl T
  have g10:w.cell? ⟨12,0,none⟩=some (ev al 11):=h.var 10 _ rfl T
  have g11:w.cell? ⟨13,0,none⟩=some (ev al 12):=h.var 11 _ rfl T
  have g12:w.cell? ⟨14,0,none⟩=some (ev al 13):=h.var 12 _ rfl T
  have g13:w.cell? ⟨15,0,none⟩=some (ev al 14):=h.var 13 _ rfl T
  have g14:w.cell? ⟨16,0,none⟩=some (ev al 15):=h.var 14 _ rfl T
  have g15:w.cell? ⟨17,0,none⟩=some (ev al 16):=h.var 15 _ rfl T
  have g16:w.cell? ⟨18,0,none⟩=some (ev al 17):=h.var 16 _ rfl T
  have g17:w.cell? ⟨1,0,none⟩=some (ev al 18):=h.var 17 _ rfl T
  have g18:w.cell? ⟨0,0,none⟩=some (ev al 19):=h.var 18 _ rfl T
  have g19:w.cell? ⟨19,0,none⟩=some (ev al 20):=h.var 19 _ rfl T
  have g20:w.cell? ⟨20,0,none⟩=some (ev al 21):=h.var 20 _ rfl T
  have g21:w.cell? ⟨21,0,none⟩=some (ev al 22):=h.var 21 _ rfl T
  have g22:w.cell? ⟨22,0,none⟩=some (ev al 23):=h.var 22 _ rfl T
  have g23:w.cell? ⟨23,0,none⟩=some (ev al 24):=h.var 23 _ rfl T
  have g24:w.cell? ⟨24,0,none⟩=some (ev al 25):=h.var 24 _ rfl T
  have g25:w.cell? ⟨25,0,none⟩=some (ev al 26):=h.var 25 _ rfl T
  have g26:w.cell? ⟨26,0,none⟩=some (ev al 27):=h.var 26 _ rfl T
  have g27:w.cell? ⟨27,0,none⟩=some (ev al 28):=h.var 27 _ rfl T
  have HB:Hid (Below w.heap.size w (w.alloc (.cells (AY al) 37))):=(Below.refl _ _).alloc (FQ _) _
  have HS:Hid (At (w.alloc (.cells (AY al) 37)) al):=h.below HB.out
  have HC:Hid (∀ k,k<28→(w.alloc (.cells (AY al) 37)).cell? ⟨w.heap.size,k,none⟩=some (ev al (k+1))):=fun k hk=>by
   rw [World.cell?_alloc_mark]
   exact zL al k hk
  clear h
  go_enter func14,ntmps14
  go_wp2_with (refine oc (o:=⟨some 36,_,_,_,_,_⟩) (.slice (some ⟨w.heap.size,0,none⟩) 28 28) (w.alloc (.cells (AY al) 37)) rfl (by kernel_rfl) ?_)
  clear g0 g1 g2 g3 g4 g5 g6 g7 g8 g9 g10 g11 g12 g13 g14 g15 g16 g17 g18 g19 g20 g21 g22 g23 g24 g25 g26 g27
  show Code.wp _ _ _ _ (w.alloc (.cells (AY al) 37))
  generalize hW:w.alloc (.cells (AY al) 37)=W at HB HS HC ⊢
  have HW:=Lib.hid hW
  clear hW
  go_loop [39] (fun i=>∃ k:Nat,k<m∧i=.int .i64 k) (fun i=>28-(intOf i).toNat)
  case atStart=>exact ⟨0,by omega,rfl⟩
  case round =>
   obtain ⟨k,hk,rfl⟩:=hrel
   have hc:=HC.out k O
   by_cases hlast:m=k+1
   ·subst hlast
    have C:=Lib.hid (AU HS.out (k+1) k h0 hm O)
    go_wp2_with (go_at_call 40;refine (C.out).mono ?_;rintro e w' ⟨rfl,rfl⟩)
    go_ret
    exact ⟨by simp,HB.out⟩
   ·have hdd:decide (m=k+1)=false:=by simpa using hlast
    have C:=Lib.hid (AU HS.out m k h0 hm O)
    go_wp2_with (go_at_call 40;refine (C.out).mono ?_;rintro e w' ⟨rfl,rfl⟩)
    go_round
    case rel=>exact ⟨k+1,by omega,by go_num⟩
    case measure=>simp [intOf];omega
end Go.Proofs.YtnijncmifjnifaaGreatDoor
namespace Go.Proofs.YtnijncmifjnifaaGreatDoor
namespace Am
open Go.RowKit
section
variable {gs:List Nat} [cw gs]
theorem wu (m:Nat) (hm:m≤28):c4 gs prog 14 [.err m] (.c (.int .i64 m)) :=
 mr fun al w St vals hs hv hr=>by
  have h0:vals.getD 0 undef=ev al m:=hr 0
  rw [AB hv,h0]
  exact zb hs.std m hm
end
section
variable {gs:List Nat} [du gs]
theorem sA {gs:List Nat} (t:Int):c4 gs prog 78 [.c (.int .i64 t)] (.c (.bool (cL t))):=by
 refine ag 17 func78 fun _ _ _ _=>?_;refine U 1216516 ?_;refine aS 5 (fun g31=>?_) fun g31=>?_
 ·refine U 8000700051100000000444444110000000044 ?_;refine cB ?_
  (simp [cL, *];done)
 refine U 150021 ?_;refine aS 9 (fun g31_2=>?_) fun g31_2=>?_
 ·refine U 8000700051100000000444444 ?_;refine cB ?_
  (simp [cL, *];done)
 refine U 121 ?_;refine aS 12 (fun g31_3=>?_) fun g31_3=>?_
 ·refine U 800070005150010000000021 ?_;refine cB ?_
  (simp [cL, *];done)
 refine U 800070005150050044 ?_;refine cB ?_
 (simp [cL, *];done)
theorem wg {gs:List Nat}:c4 gs prog 176 [] (CS jZ):=by
 refine ag 2 func176 fun _ _ _ _=>?_;refine U 6516 ?_
 refine ay (bD 9 1 A8 fun p1=>?_)
 refine U 51 ?_;refine jE (freeze 0 rfl) ?_;refine jE (Bl 0 (jZ) rfl rfl rfl rfl (fun j hj=>lp (jZ) j hj)) ?_
 refine jR (d4 (hv:=cZ))
theorem wL {gs:List Nat} (t:Int):c4 gs prog 150 [.c (.int .i64 t)] (.c (.bool (bW t))):=by
 refine ag 10 func150 fun _ _ _ _=>?_;refine U 16516 ?_
 refine ay (aD (sA _) ?_)
 refine U 1 ?_;refine aS 5 (fun g35=>?_) fun g35=>?_
 ·refine U 8000700051100000000444 ?_;refine cB ?_
  try rw [kI]
  (simp [bW,cL, *];done)
 refine ay (aD wg ?_)
 refine U 1 ?_
 refine ay (aD (mS jZ t) ?_)
 refine U 8000700051500 ?_;refine cB ?_
 try rw [kI]
 (simp [bW,cL, *];done)
def k5 (n k:Nat):V:=(List.range k).map fun i=>b8 (n / 256 ^ i)
theorem nr (n k:Nat):k5 n (k+1)=k5 n k++[b8 (n / 256 ^ k)]:=by simp [k5,HG]
theorem pV (n k:Nat):(k5 n k).length=k:=by simp [k5]
theorem ns {gs:List Nat} (n:Nat) (hn:n<65536):c4 gs prog 161 [.c (.int .i64 n)] (dL (k6 n)):=by
 refine ag 28 func161 fun _ _ _ _=>?_;refine U 52167516 ?_;refine aX (fun h39=>?_) fun h39=>?_
 ·refine U 80000016 ?_
  refine ay (bD 1 1 kV fun p1=>?_)
  refine U 51 ?_;refine jE (freeze 0 rfl) ?_;refine jE (qS 2 ([b8 n]) rfl rfl rfl rfl (.cons (cI ((by rw [rT];omega))) .nil)) ?_
  refine jR (hZ (d4 (hv:=J.bs (by unfold k6;rw [jP]))))
 refine U 207516810 ?_;refine jE (lh 3 1 (bX []) rfl) ?_;refine aG (α:=Nat×Option Nat) [0,3,9,10,11,12,13,14,15,16,17] (fun (k,g)=>[(0,.c (.int .i64 ((n / 256 ^ k:Nat):Int))),(3,.os 0 g 0 (k5 n k).length 1)]) (fun (k,g)=>[(g,.blk (k5 n k).length (bX (k5 n k)))]) (fun k=>k.1=0∨k.1=1∨(k.1=2∧256≤n)) (fun k=>2-k.1) ((0,none)) ?_ (fun _=>rfl) ?_ ?_ ?_
 exact .inl rfl
 exact .cons (cI (by simp)) (.cons cZ .nil)
 exact .same .nil
 ·rintro ⟨k,g'⟩ (hk:k=0∨k=1∨(k=2∧256≤n))
  refine U 52167 ?_;refine aX (fun h43=>?_) fun h43=>?_
  ·refine U 207810 ?_
   have hlk:=pV n k
   have hk3:k≤2:=by omega
   refine U 11200 ?_;refine jq (ED .i64 .u8) ?_
   refine ay (bD 1 1 kV fun p1=>?_)
   refine aL (bV (l2:=[b8 (n / 256 ^ k)]) rfl rfl rfl (FQ _) (fun _ _=>cZ) (bp rfl (.inl rfl) T) rfl (er (.cons (cI ((by rw [rT];generalize n / 256 ^ k=q;(simp only [IntKind.wrap_u8];omega)))) .nil)) underlying58 mL tE kV u3 rfl (by (simp;omega)) (hJ rfl rfl) rfl rfl (fun p2=>?_))
   refine U 1200840051 ?_;refine jq (oF rfl rfl rfl (by omega) _ rfl) ?_;refine U 851 ?_
   refine aH ((k+1,p2)) ?_ ?_ (h5:=?_) (h7:=?_)
   ·show k+1=0∨k+1=1∨(k+1=2∧256≤n)
    rcases hk with rfl|rfl|⟨rfl,h2⟩
    omega
    ·simp at h43;omega
    ·simp at h43;omega
   ·show 2-(k+1)<2-k
    rcases hk with rfl|rfl|⟨rfl,h2⟩
    omega
    omega
    ·simp at h43;omega
   ·simp only [nr]
    exact .cons (cI (by rw [Nat.pow_succ,← Nat.div_div_eq_div_mul,He _ T];rfl)) (.cons cZ .nil)
   ·simp only [nr]
    exact .same .nil
  refine U 84000200020006000 ?_
  have hlk:=pV n k
  have hk3:k≤2:=by omega
  refine U 80000093116 ?_
  refine ay (bD 1 1 kV fun p1=>?_)
  refine aL (bV (l2:=[b8 (128+k)]) rfl rfl rfl (FQ _) (fun _ _=>cZ) (bp rfl (.inl rfl) T) rfl (er (.cons (cI ((by rw [rT];simp only [hlk];omega))) .nil)) underlying58 mL tE kV u3 rfl (by (simp;omega)) (hJ rfl rfl) rfl rfl (fun p2=>?_))
  refine U 1651 ?_
  refine aL (dc 0 (kH _ (k5 n k++[b8 (128+k)]) (by simp [hlk];omega)) ?_)
  refine U 51165 ?_;refine jE (freeze 0 rfl) ?_;refine jE (po 2 ((k5 n k++[b8 (128+k)]).reverse) rfl rfl (by simp) rfl) ?_;refine U 80007000 ?_;refine J.bs ?_
  rcases hk with rfl|rfl|⟨rfl,h2⟩
  ·simp at h43;omega
  ·simp at h43
   unfold k6
   rw [jK,jP]
   simp [k5,HG]
   rfl
  ·unfold k6
   rw [jK,jK,jP]
   simp [k5,HG]
   rfl
structure WS where
 f:Nat
 b:V
 last:V
 dp:Nat
theorem w9 {gs:List Nat} (n:Nat) (hn:n≤100000000000):AC gs prog 167 [] [.c (.slice none 0 0),.c (.int .i64 (n:Nat))] (mV 0 1 0 fun _=>.top):=by
 refine ag 27 func167 fun _ _ _ _=>?_;refine U 52167516 ?_;refine aX (fun h423=>?_) fun h423=>?_
 ·exfalso;omega
 refine U 1167810 ?_;refine jq (sk rfl rfl underlying58) ?_;refine U 5216519931 ?_;refine aaa (fun h426=>?_) fun h426=>?_
 ·refine U 810 ?_;refine jE (lh 0 1 (fun _=>.top) rfl) ?_;refine U 70005116 ?_
  exact mf 0 (.inl rfl) (fo rfl (cR rfl)) rfl rfl (FQ _) (fun _=>rfl) (fun j hj=>absurd hj (F3 j))
 refine U 11200 ?_;refine jq (sk rfl rfl underlying58) ?_;refine jq (tY rfl rfl underlying58 tE (dm _ _) (bO rfl (show _=((0:Nat):Int) by omega)) (by omega) (by omega)) ?_;refine U 1 ?_
 refine ay (Cx (F:=fun _=>.top) rfl rfl rfl (show _=((n:Nat):Int) by omega) (by omega) underlying58 underlying3 tE T kV u3 (by omega) (by omega) rfl rfl rfl (fun p1=>?_))
 refine U 31 ?_;refine jq (zq (hl:=(dm _ _)) (hu:=(bO rfl (show _=((0:Nat):Int) by omega)))) ?_;refine U 851 ?_
 skip
 refine U 70005116 ?_
 exact mf 0 (.inl rfl) (fo rfl (cR rfl)) rfl rfl (FQ _) (fun _=>rfl) (fun j hj=>absurd hj (F3 j))
theorem fY {gs:List Nat} (ls:FI) (h:br ls≤10000000000) (hl:ls.length≤1000000):c4 gs prog 137 [CQ ls] (dL ls.flatten):=by
 refine ag 36 func137 fun _ _ _ _=>?_;refine U 20513167516516 ?_;refine aG (α:=Nat) [3,5,11,12,13,14,15,16,17,18,19,20,21,22] (fun i=>[(3,.c (.int .i64 (br (ls.take i):Nat))),(11,.c (.int .i64 (i:Nat)))]) (fun _=>[]) (fun i=>i≤ls.length) (fun i=>ls.length-i) (0) ?_ (fun _=>rfl) ?_ ?_ ?_
 exact F4 _
 exact .cons cZ (.cons cZ .nil)
 ·(repeat (exact ar.nil))
 ·rintro i (hi:i≤ls.length)
  refine U 7526 ?_;refine aX (fun h493=>?_) fun h493=>?_
  ·refine U 51607006207810 ?_
   have hs1:=jJ (ls:=ls) (i:=i) O
   have hs2:=om ls (i+1)
   refine U 52165193116 ?_;refine aX (fun h495=>?_) fun h495=>?_
   ·exfalso;omega
   refine U 8519200840010 ?_
   refine aH (i+1) ?_ ?_ (h5:=?_)
   show i+1≤ls.length;omega
   omega
   exact .cons (cI (by rw [jJ O];omega)) (.cons (cI O) .nil)
  refine U 84000200020006000 ?_
  have hs3:=om ls i
  refine U 16 ?_
  refine ay (wR (w9 (br (ls.take i)) O) (fun p1=>?_))
  refine U 2051316751 ?_;refine aG (α:=Nat×Option Nat) [6,8,27,28,29,30,31,32,33,34] (fun (j,g)=>[(6,.os 0 g 0 ((ls.take j).flatten).length 1),(27,.c (.int .i64 (j:Nat)))]) (fun (j,g)=>[(g,.blk ((ls.take j).flatten).length (bX (ls.take j).flatten))]) (fun j=>j.1≤ls.length) (fun j=>ls.length-j.1) ((0,p1)) ?_ (fun _=>rfl) ?_ ?_ ?_
  exact F4 _
  exact .cons cZ (.cons cZ .nil)
  exact .blk rfl (fun j hj=>absurd hj (F3 j)) .nil
  ·rintro ⟨j,g'⟩ (hj:j≤ls.length)
   refine U 7526 ?_;refine aaa (fun h503=>?_) fun h503=>?_
   ·refine U 511684000200020006000 ?_;refine jE (freeze 0 rfl) ?_;refine jE (po 2 ((ls.take j).flatten) rfl rfl (by rfl) rfl) ?_;refine U 80007000 ?_;refine J.bs ?_
    rw [Gl O]
   refine U 51607006207810 ?_
   have hf1:=jJ (ls:=ls) (i:=j) O
   have hf2:=om ls (j+1)
   have hf3:=jm (ls.take j)
   refine U 11200 ?_
   refine aL (bV rfl rfl rfl (FQ _) (fun _ _=>cZ) (eT rfl) rfl (fun j hj=>by simp only [Ie];exact cZ) underlying58 mL tE kV u3 rfl O (fun j hj=>rfl) rfl rfl (fun p2=>?_))
   refine U 8519200840051 ?_
   refine aH ((j+1,p2)) ?_ ?_ (h5:=?_) (h7:=?_)
   show j+1≤ls.length;omega
   show ls.length-(j+1)<ls.length-j;omega
   ·simp only [nH (show j<ls.length by omega)]
    exact .cons cZ (.cons (cI O) .nil)
   ·simp only [nH (show j<ls.length by omega)]
    exact .same .nil
end
end Am
end Go.Proofs.YtnijncmifjnifaaGreatDoor
namespace Go.Proofs.YtnijncmifjnifaaGreatDoor
open Go.RowKit
def AH:V:=[201,202,203,204,205,206]
def my (w:World) (v:Value) (l:V):Prop :=
 ∃ g,v=.slice (some ⟨g,0,none⟩) l.length (l.length+6)∧l.length+6≤9223372036854775807∧∀ i,i<l.length+6→w.cell? ⟨g,i,none⟩=some (.int .u8 ((l++AH).getD i 0).toNat)
def x8 (w:World) (g:Nat) (v:Value) (l:V):Prop :=
 v=.slice (some ⟨g,0,none⟩) l.length (l.length+6)∧l.length+6≤9223372036854775807∧∀ i,i<l.length+6→w.cell? ⟨g,i,none⟩=some (.int .u8 ((l++AH).getD i 0).toNat)
theorem my.below {a b:World} {v:Value} {l:V} (h:my a v l) (k:Below a.heap.size a b):my b v l:=by
 obtain ⟨g,rfl,h1,h2⟩:=h
 exact ⟨g,rfl,h1,fun i hi=>eB k (h2 i hi)⟩
theorem my.bs {w:World} {v:Value} {l:V} (h:my w v l):Bs w v l:=by
 obtain ⟨g,rfl,h1,h2⟩:=h
 refine Bs.of_cells O O fun i hi=>?_
 rw [Nat.zero_add,h2 i O]
 simp [List.getD,FR hi]
theorem Bs.parts {w:World} {v:Value} {l:V} (h:Bs w v l) :
  ∃ ao cap,v=.slice ao l.length cap∧l.length≤cap∧cap≤9223372036854775807∧(ao=none→l.length=0∧cap=0) ∧
   ∀ ad,ao=some ad→∀ j u,(l.map fun c=>Value.int .u8 c.toNat)[j]?=some u→w.cell? (ad.add j)=some u:=by
 obtain ⟨ao,cap,rfl,h1,h2,h3,h4⟩:=h
 refine ⟨ao,cap,rfl,h1,h2,fun h=>⟨by have:=h3 h;omega,h3 h⟩,?_⟩
 intro ad had j u hu
 have ⟨hs,hc⟩:=h4 ad had
 have ⟨b,o,sp⟩:=ad
 have hj:j<l.length:=by
  have:=(FL.1 hu).1
  simpa using this
 have hs:=hs O
 simp only at hs
 subst hs
 rw [Addr.add_lit,hc j hj]
 rw [GQ,FW hj] at hu
 simpa [List.getD,hj] using hu
end Go.Proofs.YtnijncmifjnifaaGreatDoor
namespace Go.Proofs.YtnijncmifjnifaaGreatDoor
namespace Am
open Go.RowKit
section
variable {gs:List Nat} [du gs]
def B5 (l:V):SV where
 p St w v:=∃ g,St g∧x8 w g v l
 st:=fun {St St' w w' v} hs hb ⟨g,h1,h2,h3,h4⟩=>⟨g,hs g h1,h2,h3,fun i hi=>kB (fun cur t z hc=>hb g cur t z h1 hc) (h4 i hi)⟩
 one:=fun {St w v} ⟨g,h1,h2,h3,h4⟩=>by rw [h2];exact ⟨rfl,rfl⟩
def DA (l:V):CV:=.pv (B5 l)
theorem J.mark {l:V}:J (DA l) (dL l):=fun al St w v ⟨g,h1,h2,h3,h4⟩=>by
 refine ⟨_,_,h2,by omega,h3,(fun h=>by cases h),fun a ha hn=>?_⟩
 cases ha
 refine ⟨rfl,h1,fun i j hi hj=>⟨_,by rw [show 0+(i * 1+j)=i by omega];exact h4 i O,?_⟩⟩
 show _=_
 simp [List.getD,FR hi]
def iJ (tag:Int) (body:V):Nat:=if bW tag=false then 5 else if 65530<body.length then 3 else 0
theorem wK {t:Int} (h:bW t=true):0≤t∧t<256:=by
 unfold bW cL at h
 simp at h
 omega
theorem yx (tag:Int) (body:V) (hb:body.length≤1000000):c4 gs prog 131 [.agg 2 (fl [.c (.int .i64 tag),dL body])] (.tup 2 (fl [dL (if iJ tag body=0 then cS tag body else []),.err (iJ tag body)])):=by
 refine ag 28 func131 fun _ _ _ _=>?_;refine dU ?_
 refine ay (cG 2 fun p1=>?_)
 refine U 50906207511 ?_
 refine ay (aD (wL _) ?_)
 refine U 5130 ?_;refine aX (fun h62=>?_) fun h62=>?_
 ·refine oU ?_;refine pZ (.rd 0 (.rd 1 (.rd 2 .done))) ?_;refine eF (iv 4) ?_;refine U 80003000500070008807070 ?_
  have hk:bW tag=false:=by simpa using h62
  have he:iJ tag body=5:=by unfold iJ;rw [FO hk]
  rw [he];exact cT cN cZ
 refine U 5123501006 ?_;refine aX (fun h64=>?_) fun h64=>?_
 ·refine oU ?_;refine pZ (.rd 0 (.rd 1 (.rd 2 .done))) ?_;refine eF (iv 2) ?_;refine U 80003000500070008807070 ?_
  have hk:bW tag=true:=by simpa using h62
  have he:iJ tag body=3:=by unfold iJ;rw [FN (by rw [hk];exact Bool.noConfusion),jP]
  rw [he];exact cT cN cZ
 refine U 7840010 ?_
 have hk:bW tag=true:=by simpa using h62
 have hkb:=wK hk
 have he:iJ tag body=0:=by unfold iJ;rw [FN (by rw [hk];exact Bool.noConfusion),jK]
 have hlb:=oN body.length
 refine pZ (.rd 0 (.rd 1 (.rd 2 (.rd 4 (.rd 5 (.rd 6 (.rd 8 (.rd 9 (.two 3 (.one 7 (.one 10 (.one 11 (.rd 12 (.rd 13 .done))))) 7 (.one 3 (.one 10 (.one 11 (.rd 12 (.rd 13 .done)))))))))))))) ?_;refine U 10000900000 ?_;refine eF (Cc .i64 .u8) ?_;refine U 10000800000020000100008000000 ?_;refine AK ?_ ?_
 ·refine mA (bD 1 1 kV fun p2=>?_)
  refine mA (aD (ns body.length O) ?_)
  refine iy (freeze 1 rfl) ?_;refine iy (qS 19 [UInt8.ofNat tag.toNat] rfl rfl rfl rfl (.cons (cI (by rw [GG];omega)) .nil)) ?_
  refine mA (bD 3 1 lw fun p3=>?_)
  refine iy (freeze 2 rfl) ?_;refine iy (vb 26 [[UInt8.ofNat tag.toNat],k6 body.length,body] rfl rfl rfl rfl (.cons cZ (.cons cZ (.cons cZ .nil)))) ?_
  refine mA (aD (fY [[UInt8.ofNat tag.toNat],k6 body.length,body] (by simp [br];omega) (by simp)) ?_)
  refine U 8807070 ?_
  refine jR (d4 (hv:=cT (J.bs (by rw [he,FO rfl];simp [cS])) (J.nilE he)))
 ·refine mA (aD (ns body.length O) ?_)
  refine mA (bD 1 1 kV fun p2=>?_)
  refine iy (freeze 1 rfl) ?_;refine iy (qS 19 [UInt8.ofNat tag.toNat] rfl rfl rfl rfl (.cons (cI (by rw [GG];omega)) .nil)) ?_
  refine mA (bD 3 1 lw fun p3=>?_)
  refine iy (freeze 2 rfl) ?_;refine iy (vb 26 [[UInt8.ofNat tag.toNat],k6 body.length,body] rfl rfl rfl rfl (.cons cZ (.cons cZ (.cons cZ .nil)))) ?_
  refine mA (aD (fY [[UInt8.ofNat tag.toNat],k6 body.length,body] (by simp [br];omega) (by simp)) ?_)
  refine U 8807070 ?_
  refine jR (d4 (hv:=cT (J.bs (by rw [he,FO rfl];simp [cS])) (J.nilE he)))
end
theorem nR (a b:UInt8):dl b a=- dl a b:=by
 unfold dl
 rcases HR a.toNat b.toNat with h|h|h
 ·rw [jK,FO h,FO h];rfl
 ·rw [jK,jK,jK,jK];rfl
 ·rw [FO h,jK,FO h]
theorem ij {a b:UInt8} (h:dl a b=0):a=b:=by
 unfold dl at h
 split at h
 omega
 ·split at h
  omega
  exact UInt8.toNat_inj.1 O
theorem mj (a b:UInt8):(dl a b<0↔a.toNat<b.toNat)∧(dl a b≤0↔a.toNat≤b.toNat):=by
 unfold dl
 split
 omega
 ·split<;>omega
theorem cr:∀ l r:V,cH r l=- cH l r
 | [],[]=>rfl
 | [],_::_=>rfl
 | _::_,[]=>rfl
 | a::l,b::r=>by
  have h:=nR a b
  have ih:=cr l r
  rw [cH,cH]
  by_cases e:dl a b=0
  ·rw [jK,jK,ih]
  ·rw [jP,FO e,h]
theorem kx:∀ {l r:V},cH l r=0→l=r
 | [],[],_=>rfl
 | [],_::_,h=>by simp [cH] at h
 | _::_,[],h=>by simp [cH] at h
 | a::l,b::r,h=>by
  rw [cH] at h
  by_cases e:dl a b=0
  ·rw [FN (fun x=>x e)] at h
   rw [ij e,kx h]
  ·rw [FO e] at h;exact absurd h e
theorem fZ:∀ {a b c:V},cH a b≤0→cH b c≤0→cH a c≤0
 | [],_,[],_,_=>Int.le_refl 0
 | [],_,_::_,_,_=>by show (-1:Int)≤0;decide
 | _::_,[],_,h,_=>by simp [cH] at h
 | _::_,_::_,[],_,h=>by simp [cH] at h
 | x::a,y::b,z::c,h1,h2=>by
  rw [cH] at h1 h2 ⊢
  have k1:=mj x y;have k2:=mj y z;have k3:=mj x z
  by_cases e1:dl x y=0
  ·have e:=ij e1
   subst e
   rw [FN (fun q=>q e1)] at h1
   by_cases e2:dl x z=0
   ·rw [FN (fun q=>q e2)] at h2 ⊢
    exact fZ h1 h2
   ·rw [FO e2] at h2 ⊢;exact h2
  ·rw [FO e1] at h1
   by_cases e2:dl y z=0
   ·have e:=ij e2
    subst e
    rw [FO e1];exact h1
   ·rw [FO e2] at h2
    have e3:dl x z≠0:=fun e=>by
     have:=ij e
     subst this
     have:=nR x y
     omega
    rw [FO e3]
    omega
theorem uP (l:V):cH l l=0:=by have:=cr l l;omega
theorem xN {α:Type} (L:α→V):Go.Sort.SWO (fun x y:α=>decide (cH (L x) (L y)<0)) where
 irrefl:=fun x=>by rw [uP];rfl
 trans:=fun x y z h1 h2=>by
  simp only [FT] at h1 h2 ⊢
  have h3:=fZ (a:=L x) (b:=L y) (c:=L z) O O
  by_cases e:cH (L x) (L z)=0
  ·have:=kx e
   have h4:=cr (L y) (L z)
   rw [this] at h1
   omega
  omega
 ntrans:=fun x y z h1 h2=>by
  simp only [Hl,HJ] at h1 h2 ⊢
  have s1:=cr (L x) (L y);have s2:=cr (L y) (L z);have s3:=cr (L x) (L z)
  have h3:=fZ (a:=L z) (b:=L y) (c:=L x) O O
  omega
def oO (a b:V):Bool:=decide (cH a b≤0)
theorem nv (a b:V):(oO a b || oO b a)=true:=by
 have:=cr a b
 unfold oO
 by_cases h:cH a b≤0
 ·simp [h]
 ·have:cH b a≤0:=by omega
  simp [this]
theorem nu (a b c:V) (h1:oO a b=true) (h2:oO b c=true):oO a c=true:=by
 unfold oO at h1 h2 ⊢
 simp only [FT] at h1 h2 ⊢
 exact fZ h1 h2
theorem wH {a b:V} (h1:oO a b=true) (h2:oO b a=true):a=b:=by
 unfold oO at h1 h2
 simp only [FT] at h1 h2
 have:=cr a b
 exact kx O
def cJ (ls:FI):FI:=ls.mergeSort oO
theorem fG (ls:FI):(cJ ls).Perm ls:=Ij ls oO
theorem oo (ls:FI):(cJ ls).Pairwise fun a b=>oO a b=true:=HY nu nv ls
theorem m5:∀ {l r:FI},l.Perm r→(l.Pairwise fun a b=>oO a b=true)→(r.Pairwise fun a b=>oO a b=true)→l=r
 | [],r,hp,_,_=>(List.nil_perm.1 hp).symm
 | a::l,[],hp,_,_=>absurd hp.symm.nil_eq (by simp)
 | a::l,b::r,hp,h1,h2=>by
  have ha:=HL.1 h1
  have hb:=HL.1 h2
  have e:a=b:=by
   have m1:a ∈ b::r:=hp.subset (F2 ..)
   have m2:b ∈ a::l:=hp.symm.subset (F2 ..)
   rcases Gb.1 m1 with h|h
   exact h
   ·rcases Gb.1 m2 with k|k
    exact k.symm
    exact wH (ha.1 b k) (hb.1 a h)
  subst e
  rw [m5 (List.perm_cons a |>.1 hp) ha.2 hb.2]
theorem pt {l r:FI} (hp:l.Perm r) (h:l.Pairwise fun a b=>oO a b=true):l=cJ r:=m5 (hp.trans (fG r).symm) h (oo r)
theorem oq (ls:FI):(cJ ls).length=ls.length:=(fG ls).length_eq
section
open Go.RowKit Go.Lib
def bt (l:V) (i:Nat):Nat:=(l.getD i 0).toNat
def c6 (l:V):Nat×Nat:=Lib.decodeN l.length (bt l 0) (bt l 1) (bt l 2) (bt l 3)
theorem eO (l:V) (i:Nat):((⟨l.toArray⟩:ByteArray).get! i).toNat=bt l i:=by
 show (l.toArray[i]!).toNat=_
 simp [bt,List.getD]
 rfl
theorem o3 (l:V):decodeL l=c6 l:=by
 unfold decodeL c6
 rw [Lib.decode_at,eO,eO,eO,eO]
 rfl
theorem eA (l:V):1≤(c6 l).2∧(c6 l).2≤4:=by
 unfold c6 Lib.decodeN
 repeat' split
 all_goals simp
def mn (c:Nat):Bool:=decide (c<32) || decide (c=127)
def da:Nat→V→Bool
 | 0,_=>true
 | n+1,l=>if l=[] then true else if ((c6 l).1=65533∧(c6 l).2=1)∨mn (c6 l).1=true then false else da n (l.drop (c6 l).2)
def fN (l:V):Bool:=da l.length l
def fq:Nat→V→Bool
 | 0,_=>true
 | n+1,l=>if l=[] then true else if mn (c6 l).1=true then false else fq n (l.drop (c6 l).2)
theorem nk:∀ (n:Nat) (l:V),da n l=(fq n l && validGoD n l)
 | 0,l=>rfl
 | n+1,l=>by
  rw [da,fq,validGoD,nk n,o3]
  by_cases h:l=[]
  ·simp [h]
  ·rw [FN h,FN h,FN h]
   by_cases h1:mn (c6 l).1=true
   ·simp [h1]
   ·by_cases h2:(c6 l).1=65533∧(c6 l).2=1
    ·simp [h2]
    ·rw [FN (by simp [h1];intro h3 h4;exact h2 ⟨h3,h4⟩),FN h1,FN h2]
theorem l7:∀ (n m:Nat) (l:V),l.length≤n→l.length≤m→da n l=da m l
 | 0,m,l,h,_=>by
  have:l=[]:=G6.1 O
  subst this
  cases m<;>simp [da]
 | n+1,0,l,_,h=>by
  have:l=[]:=G6.1 O
  subst this
  simp [da]
 | n+1,m+1,l,h1,h2=>by
  rw [da,da]
  by_cases h:l=[]
  ·simp [h]
  ·have hw:=(eA l).1
   have hp:=GB.2 h
   rw [l7 n m _ (by simp;omega) (by simp;omega)]
theorem pH {l:V} (h:l≠[]):fN l=if ((c6 l).1=65533∧(c6 l).2=1)∨mn (c6 l).1=true then false else fN (l.drop (c6 l).2):=by
 have hp:=GB.2 h
 have hw:=(eA l).1
 unfold fN
 obtain ⟨n,hn⟩:∃ n,l.length=n+1:=⟨l.length-1,by omega⟩
 rw [hn,da,FN h,l7 n (l.drop (c6 l).2).length _ (by simp;omega) (FQ _)]
theorem rn {n:Nat} {l:V} (h:l≠[]):fq (n+1) l=if mn (c6 l).1=true then false else fq n (l.drop (c6 l).2):=by rw [fq,FN h]
theorem lS:∀ (n m:Nat) (l:V),l.length≤n→l.length≤m→fq n l=fq m l
 | 0,m,l,h,_=>by
  have:l=[]:=G6.1 O
  subst this
  cases m<;>simp [fq]
 | n+1,0,l,_,h=>by
  have:l=[]:=G6.1 O
  subst this
  simp [fq]
 | n+1,m+1,l,h1,h2=>by
  rw [fq,fq]
  by_cases h:l=[]
  ·simp [h]
  ·have hw:=(eA l).1
   have hp:=GB.2 h
   rw [lS n m _ (by simp;omega) (by simp;omega)]
def ke (l:V):Bool:=fq l.length l
theorem gC {l:V} (h:l≠[]):ke l=if mn (c6 l).1=true then false else ke (l.drop (c6 l).2):=by
 have hp:=GB.2 h
 have hw:=(eA l).1
 unfold ke
 obtain ⟨n,hn⟩:∃ n,l.length=n+1:=⟨l.length-1,by omega⟩
 rw [hn,rn h,lS n (l.drop (c6 l).2).length _ (by simp;omega) (FQ _)]
theorem iK (l:V):fN l=(ke l && validD l):=nk _ _
theorem tW {l:V} (h:l≠[]) (h0:bt l 0<128):fN l=if bt l 0<32∨bt l 0=127 then false else fN (l.drop 1):=by
 have e:c6 l=(bt l 0,1):=by unfold c6 Lib.decodeN;rw [FO h0]
 rw [pH h,e]
 simp only [mn,GE,FT]
 by_cases h1:bt l 0<32∨bt l 0=127
 ·rw [FO (.inr h1),FO h1]
 ·rw [FN h1,jK]
def ax (l:V) (most:Int):Nat:=if l.length=0 then 2 else if most<l.length then 3 else if fN l=false then 8 else 0
end
def vG (n:Nat):Nat:=(List.range 8).foldl (fun a i=>a+n / 2 ^ i % 2 * 2 ^ (7-i)) 0
def ki (n:Nat):Nat:=(List.range 8).foldl (fun a i=>if n / 2 ^ i % 2=1 then i+1 else a) 0
def Eu (n:Nat):Nat:=(List.range 8).foldr (fun i a=>if n / 2 ^ i % 2=1 then i else a) 8
theorem CK {n:Nat} {p:Nat→Bool} (h:(List.range n).all p=true) {i:Nat} (hi:i<n):p i=true:=F5.1 h i (GD.2 hi)
theorem sD {i:Nat} (h:i<256):i<2 ^ ki i∧ki i≤8∧(ki i=0∨2 ^ (ki i-1)≤i):=by
 have:=CK (n:=256) (p:=fun i=>decide (i<2 ^ ki i∧ki i≤8∧(ki i=0∨2 ^ (ki i-1)≤i))) (by decide +kernel) h
 simpa using this
def EU (m n:Nat):Prop:=m<2 ^ n∧(n=0∨2 ^ (n-1)≤m)
def bl (m:Nat):Nat:=if 256≤m then 8+ki (m / 256) else ki m
theorem A4 {m:Nat} (h:m<65536):EU m (bl m)∧bl m≤16:=by
 unfold bl
 split
 ·obtain ⟨h1,h2,h3⟩:=sD (i:=m / 256) O
  refine ⟨⟨?_,?_⟩,by omega⟩
  ·rw [Nat.pow_add];omega
  ·right
   rcases h3 with h3|h3
   ·rw [h3] at h1;simp at h1;omega
   ·rw [show 8+ki (m / 256)-1=8+(ki (m / 256)-1) by
     have:ki (m / 256)≠0:=fun h=>by rw [h] at h1;simp at h1;omega
     omega,Nat.pow_add]
    omega
 ·obtain ⟨h1,h2,h3⟩:=sD (i:=m) O
  exact ⟨⟨h1,h3⟩,by omega⟩
def oX (m:Nat):V:=UInt8.ofNat ((8-bl m % 8) % 8)::(if bl m=0 then [] else if bl m≤8 then [UInt8.ofNat (vG (m % 256))] else [UInt8.ofNat (vG (m % 256)),UInt8.ofNat (vG (m / 256))])
def AG (b:V):Nat×Nat :=
 if b.length=0 then (0,2) else
 if 8≤(b.getD 0 0).toNat∨3<b.length∨(b.length=1∧0<(b.getD 0 0).toNat) then (0,4) else
 if b.length=1 then (0,0) else
 if Eu (b.getD (b.length-1) 0).toNat≠(b.getD 0 0).toNat then (0,4) else
 let m:=vG (b.getD 1 0).toNat+256 * (if b.length=3 then vG (b.getD 2 0).toNat else 0)
 if 32768≤m then (0,1) else (m,0)
theorem uG {m:Nat} (h:m<65536):(oX m).length=1+(bl m+7) / 8:=by
 have:=(A4 h).2
 unfold oX
 split
 ·rename_i e;rw [e];rfl
 ·split
  ·simp;omega
  ·simp;omega
end Am
end Go.Proofs.YtnijncmifjnifaaGreatDoor
namespace Go.Proofs.YtnijncmifjnifaaGreatDoor
open Go.RowKit
def jx (n:Int):UInt8:=UInt8.ofNat (n % 256).toNat
theorem dG (n:Int):((jx n).toNat:Int)=n % 256:=by
 have h0:0≤n % 256:=Int.emod_nonneg _ T
 have h1:n % 256<256:=Int.emod_lt_of_pos _ T
 have:(jx n).toNat=(n % 256).toNat:=by
  unfold jx
  rw [GG]
  omega
 omega
def sh:Nat→Int→Int
 | 0,n=>n
 | k+1,n=>sh k n / 256
def dD (k:Nat) (n:Int):V:=(List.range k).map fun j=>jx (sh j n)
theorem bj (k:Nat) (n:Int):(dD k n).length=k:=by simp [dD]
theorem eh (k:Nat) (n:Int):dD (k+1) n=dD k n++[jx (sh k n)]:=by simp [dD,HG]
theorem qy (k:Nat) (n:Int) (j:Nat) (h:j<k):(dD k n).getD j 0=jx (sh j n):=by simp [dD,List.getD,h]
def qU (j:Nat) (n:Int):Bool:=(sh (j+1) n == 0 && decide (sh j n % 256<128)) || (sh (j+1) n == -1 && decide (128≤sh j n % 256))
theorem lc (j:Nat) (n:Int):qU j n=true↔-128≤sh j n∧sh j n<128:=by
 simp only [qU,sh,GE,FK,GF,FT]
 constructor
 ·intro h;omega
 ·intro h;omega
theorem m4 (n:Int) (h1:-9223372036854775808≤n) (h2:n≤9223372036854775807):qU 7 n=true:=by
 rw [lc]
 simp only [sh]
 omega
def n5 (n:Int) (k:Nat):Prop:=k≤7∧qU k n=true∧∀ j,j<k→qU j n=false
theorem n5.unique {n:Int} {k m:Nat} (h:n5 n k) (g:n5 n m):k=m:=by
 rcases HR k m with h1|h1|h1
 ·have:=g.2.2 k h1;rw [h.2.1] at this;cases this
 exact h1
 ·have:=h.2.2 m h1;rw [g.2.1] at this;cases this
def EY (c:UInt8):Int:=if c.toNat<128 then c.toNat else (c.toNat:Int)-256
def qR (l:V):Int:=match l with
 | []=>0
 | c::r=>r.foldl (fun a b=>a * 256+b.toNat) (EY c)
theorem tv (l:V) (hl:l≠[]) (c:UInt8):qR (l++[c])=qR l * 256+c.toNat:=by
 cases l with
 | nil=>exact absurd rfl hl
 | cons x r=>simp [qR,HT]
theorem tw (n:Int):∀ k,qU k n=true→qR (dD (k+1) n).reverse=n:=by
 intro k h
 have key:∀ j,j≤k→qR ((dD (k+1) n).reverse.take (j+1))=sh (k-j) n:=by
  intro j
  induction j with
  | zero =>
   intro _
   rw [eh]
   simp only [List.reverse_append,GS,List.reverse_nil,List.nil_append,List.singleton_append,List.take_succ_cons,Ig,qR,List.foldl_nil,EY,Nat.sub_zero]
   rw [lc] at h
   have:=dG (sh k n)
   split<;>omega
  | succ j ih =>
   intro hj
   have hlen:j+1<(dD (k+1) n).reverse.length:=by simp [bj];omega
   rw [FV hlen,tv _ (by intro e;have:=F7 List.length e;simp [bj] at this),ih O]
   have eg:(dD (k+1) n).reverse[j+1]=jx (sh (k-(j+1)) n):=by
    rw [If]
    have:=qy (k+1) n ((dD (k+1) n).length-1-(j+1)) (by rw [bj];omega)
    simp only [List.getD,bj] at this ⊢
    rw [FW (by rw [bj];omega)] at this
    simp only [G5] at this
    rw [show k-(j+1)=k+1-1-(j+1) by omega]
    exact this
   rw [eg,dG,show k-j=(k-(j+1))+1 by omega]
   simp only [sh]
   omega
 have:=key k (FQ _)
 rw [Gl (by simp [bj])] at this
 simpa [sh] using this
def w6 (l:V):Bool:=match l with
 | a::b::_=>(a.toNat == 0 && decide (b.toNat<128)) || (a.toNat == 255 && decide (128≤b.toNat))
 | _=>false
def qg (l:V):Int×Nat :=
 if l.length=0 then (0,2) else if w6 l=true then (0,4) else if 8<l.length then (0,1) else (qR l,0)
theorem mQ (k:Nat) (n:Int):(dD (k+2) n).reverse=jx (sh (k+1) n)::jx (sh k n)::(dD k n).reverse:=by
 rw [eh,eh]
 simp
theorem uC (n:Int) (k:Nat) (h:qU (k+1) n=true):w6 (dD (k+2) n).reverse=qU k n:=by
 rw [mQ]
 rw [lc] at h
 have e:=lc k n
 rw [GT,e]
 simp only [w6,GE,FK,GF,FT]
 have h1:=dG (sh (k+1) n)
 have h2:=dG (sh k n)
 simp only [sh] at h h1 h2 ⊢
 omega
theorem xc (n:Int) (k:Nat) (h:n5 n k):qg (dD (k+1) n).reverse=(n,0):=by
 have hi:w6 (dD (k+1) n).reverse=false:=by
  cases k with
  | zero=>simp [dD,w6]
  | succ k=>rw [uC n k h.2.1];exact h.2.2 k O
 have:=h.1
 simp [qg,bj,hi,tw n k h.2.1]
 omega
end Go.Proofs.YtnijncmifjnifaaGreatDoor
namespace Go.Proofs.YtnijncmifjnifaaGreatDoor
open Go.RowKit
def E9 (d:Nat):UInt8:=jx (48+d:Nat)
def Fa (n:Nat):V:=if n<10 then [E9 n] else Fa (n / 10)++[E9 (n % 10)]
termination_by n
def DP (c:UInt8):Bool:=decide (48≤c.toNat) && decide (c.toNat≤57)
def En (l:V):Nat:=l.foldl (fun a c=>10 * a+(c.toNat-48)) 0
def DT (l:V):Nat×Nat:=if l.length=0∨18<l.length∨(1<l.length∧(l.getD 0 0).toNat=48)∨l.all DP=false then (0,4) else (En l,0)
end Go.Proofs.YtnijncmifjnifaaGreatDoor
namespace Go.Proofs.YtnijncmifjnifaaGreatDoor
namespace Am
open Go.RowKit
def xM (x:UInt8):FI→FI
 | []=>[[x]]
 | p::r=>(x::p)::r
def iG (c:UInt8):V→FI
 | []=>[[]]
 | x::l=>if x=c then []::iG c l else xM x (iG c l)
def AL (c:UInt8):FI→V
 | []=>[]
 | [p]=>p
 | p::q::r=>p++c::AL c (q::r)
def E3 (p:V):Bool:=decide ((DT p).2=0) && decide (p.length≤10)
def Bi (p:V):Int:=((DT p).1:Nat)
def jT (l:List Int):Bool:=decide (2≤l.length) && decide (l.length≤16) && l.all (fun n=>decide (0≤n) && decide (n≤2147483647)) && decide (l.getD 0 0≤2) && (decide (l.getD 0 0=2) || decide (l.getD 1 0<40))
def bI (s:V):List Int×Nat :=
 if ((iG 46 s).all E3)=false then ([],4) else if jT ((iG 46 s).map Bi)=false then ([],1) else ((iG 46 s).map Bi,0)
def kG (m:Nat):V:=if h:m=0 then [] else kG (m / 128)++[UInt8.ofNat (m % 128+128)]
termination_by m
decreasing_by omega
def vx (n:Nat):V:=kG (n / 128)++[UInt8.ofNat (n % 128)]
theorem lK:kG 0=[]:=by rw [kG];simp
theorem tJ {m:Nat} (h:m≠0):kG m=kG (m / 128)++[UInt8.ofNat (m % 128+128)]:=by rw [kG,dif_neg h]
theorem tK (k:Nat):∀ m,m<128 ^ k→(kG m).length≤k:=by
 induction k with
 | zero =>
   intro m h;have:m=0:=by simpa using h
   subst this;rw [lK];simp
 | succ k ih =>
  intro m h
  by_cases h0:m=0
  ·subst h0;rw [lK];simp
  ·rw [tJ h0,FX]
   have:=ih (m / 128) (Hy (by rw [Nat.pow_succ] at h;omega))
   simp;omega
theorem pw {n:Nat} (h:n<34359738368):(vx n).length≤5:=by
 have:=tK 4 (n / 128) O
 simp [vx];omega
def AD (l:V):Nat:=l.foldl (fun a c=>a * 128+c.toNat % 128) 0
def fL:V→Nat
 | []=>0
 | c::l=>if c.toNat<128 then 1 else 1+fL l
theorem qZ {l:V} (h:l≠[]):0<fL l:=by
 cases l with
 | nil=>exact absurd rfl h
 | cons c l=>rw [fL];split<;>omega
def B0 (run:V) (most:Nat):Nat×Nat :=
 if 128≤(run.getD (run.length-1) 0).toNat then (0,2) else if (run.getD 0 0).toNat=128 then (0,4) else if most<AD run then (0,1) else (AD run,0)
def je (most:Nat) (b:V):List Nat×Nat :=
 if h:b=[] then ([],0) else
  if (B0 (b.take (fL b)) most).2≠0 then ([],(B0 (b.take (fL b)) most).2) else
   if (je 2147483647 (b.drop (fL b))).2≠0 then ([],(je 2147483647 (b.drop (fL b))).2) else
    ((B0 (b.take (fL b)) most).1::(je 2147483647 (b.drop (fL b))).1,0)
termination_by b.length
decreasing_by
 all_goals
  have:=qZ h
  have:=GB.2 h
  simp;omega
def xY:List Nat→List Int
 | []=>[]
 | n::r=>(min (n / 40) 2:Nat)::((n:Int)-40 * (min (n / 40) 2:Nat))::r.map Int.ofNat
def Cq (b:V):List Int×Nat :=
 if b=[] then ([],2) else if (je 2147483727 b).2≠0 then ([],(je 2147483727 b).2) else
  if jT (xY (je 2147483727 b).1)=false then ([],1) else (xY (je 2147483727 b).1,0)
def Do (l:List Int):V:=vx (40 * l.getD 0 0+l.getD 1 0).toNat++((l.drop 2).map fun n=>vx n.toNat).flatten
theorem vD {l:List Int} (h:jT l=true):2≤l.length∧l.length≤16∧(∀ n ∈ l,0≤n∧n≤2147483647)∧l.getD 0 0≤2∧(l.getD 0 0=2∨l.getD 1 0<40):=by
 simp only [jT,FK,GE,FT,F5] at h
 have ⟨⟨⟨⟨h1,h2⟩,h3⟩,h4⟩,h5⟩:=h
 exact ⟨h1,h2,fun n hn=>h3 n hn,h4,h5⟩
def Da (l:List Int):V:=AL 46 (l.map fun n=>Fa n.toNat)
theorem pI {s:V} {l:List Int} (h:bI s=(l,0)):jT l=true∧(iG 46 s).all E3=true∧l=(iG 46 s).map Bi:=by
 unfold bI at h
 split at h
 ·simp at h
 rename_i h1
 split at h
 ·simp at h
 rename_i h2
 simp at h
 subst h
 exact ⟨by simpa using h2,by simpa using h1,rfl⟩
def mH (s:V):V:=if (bI s).2=0 then Do (bI s).1 else []
def AF (b:V):V×Nat:=if (Cq b).2=0 then (Da (Cq b).1,0) else ([],(Cq b).2)
end Am
end Go.Proofs.YtnijncmifjnifaaGreatDoor
