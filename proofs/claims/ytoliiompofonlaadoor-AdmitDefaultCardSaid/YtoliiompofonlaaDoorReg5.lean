
/- Regions walked in a fence with a round: what is shown of operations and regions anywhere holds in a round of a range over a function, too. -/
import Derived.Test.YtoliiompofonlaaDoorReg4
import Derived.RangeFuncNested
import Derived.OrdersIn
import Derived.RangeFuncCalls
import Derived.RangeFuncLeaves
import Derived.RangeFuncRecord
namespace Go.Proofs.YtoliiompofonlaaDoor
set_option linter.unusedVariables false
open Go.RowKit
/-- the wide fence, in a round or in none -/
def frd (rd : Option Nat) : Fence := { Fence.wide with round := rd }
def isDefer (o : Oper) : Bool := match o.op with | .defer _ => true | _ => false
theorem not_defer {o : Oper} (h : isDefer o = false) : ∀ c, o.op ≠ .defer c := fun c e => by simp [isDefer, e] at h
def rdB (rd : Option Nat) (ops : Array Oper) : Bool := match rd with | none => true | some _ => ops.toList.all fun o => !isDefer o
section
variable {P : Program} {rd : Option Nat} {n : Nat} {ops : Array Oper} {Q : Exit → Act → World → Prop} {md : Region.Mode}
theorem frd_fn (f : FuncId) : (frd rd).fn f := trivial
theorem frd_depth : (frd rd).depth = none := rfl
theorem frd_room (k : Nat) : (frd rd).room k := fun d h => by cases h
theorem callsIn_frd {f : FuncId} {args : Array Value} {w : World} {R : Ending → World → Prop} : CallsIn (frd rd) n P f args w R ↔ Calls P f args w R := callsIn_wide
theorem upon_in {o : Oper} {a : Act} {K : Act → World → Prop} : ∀ {r : Result Next}, o.upon P a K Q r → o.uponIn (frd rd) n P a K Q r
  | .ok x w', h => by
    cases x with
    | enter f args => exact ⟨fun h => (by cases h), callsIn_frd.2 h⟩
    | row row args => exact ⟨fun h => (by cases h), fun c cs _ => let ⟨v, w', h1, h2⟩ := h c cs; ⟨v, w', h1, stepsIn_wide.2 h2⟩⟩
    | _ => first | exact h | exact (h : False).elim
  | .halt x w', h => by cases x <;> first | exact h | exact (h : False).elim
theorem Oper.wp_in {o : Oper} {a : Act} {w : World} {K : Act → World → Prop} (hd : rd = none ∨ isDefer o = false) (h : o.wp P a w K Q) : o.wpIn (frd rd) n P a w K Q := by
  refine ⟨fun f _ => trivial, ?_⟩
  have e : o.semAt (frd rd).round a.eval = execOp a.eval o := by
    rcases hd with rfl | hd
    · rfl
    · exact Oper.semAt_eq _ _ _ (not_defer hd)
  rw [e]
  exact upon_in h
theorem rdB_at (h : rdB rd ops = true) {i : Nat} {o : Oper} (ho : ops[i]? = some o) : rd = none ∨ isDefer o = false := by
  cases rd with
  | none => exact .inl rfl
  | some l =>
    have := List.all_eq_true.1 h o (Array.mem_toList_iff.2 (Array.mem_of_getElem? ho))
    simpa using this
theorem wpOp_in (hd : rdB rd ops = true) (hlo : ¬ LetsOut Q) {i : Nat} {a : Act} {w : World} {K K' : Act → World → Prop} (hK : ∀ a w, K a w → K' a w) (h : wpOp P ops Q i K a w) : wpOpIn (frd rd) n P ops Q i K' a w := by
  unfold wpOp at h
  unfold wpOpIn
  cases ho : ops[i]? with
  | none => simp only [ho] at h; exact hK _ _ h
  | some o =>
    simp only [ho] at h ⊢
    split
    · rename_i hw
      rw [if_pos hw] at h
      rcases h with h | h
      · exact Oper.wp_in (rdB_at hd ho) (Oper.wp_mono hK h)
      · exact absurd h.2 hlo
    · rename_i hw
      rw [if_neg hw] at h
      exact ⟨fun f _ => trivial, hK _ _ h⟩
theorem wpAny_in (hd : rdB rd ops = true) (hlo : ¬ LetsOut Q) : ∀ (f : Nat) (listed : Array Bool) (a : Act) (w : World), wpAny P md ops Q f listed a w → wpAnyIn (frd rd) n P md ops Q f listed a w
  | 0, _, _, _, h => h
  | f + 1, _, _, _, h => ⟨h.1, fun i hi => wpOp_in hd hlo (fun a' w' h' => wpAny_in hd hlo f _ a' w' h') (h.2 i hi)⟩
/-- only off its end -/
def OnlyN (Q : Exit → Act → World → Prop) : Exit → Act → World → Prop
  | .normal, a, w => Q .normal a w
  | _, _, _ => False
theorem OnlyN.imp : ∀ (e : Exit) (a : Act) (w : World), NoPanic (OnlyN Q) e a w → Q e a w := fun e a w h => by
  cases e <;> first | exact h | exact (h : False).elim
theorem onlyN_out : ¬ LetsOut (NoPanic (OnlyN Q)) := fun ⟨_, _, h⟩ => h
/-- a region that draws its order -/
theorem wpIn_any {id : Nat} {a : Act} {w : World} (hd : rdB rd ops = true) (hm : P.follows .mixedOrders = true) (h : wpAny P .any ops (NoPanic (OnlyN Q)) ops.size (Array.replicate ops.size false) a w.drew) : (Code.region id ops true).wpIn (frd rd) n P Q a w :=
  wpIn_mono (wpIn_region_any hm (wpAny_in hd onlyN_out _ _ _ _ h)) OnlyN.imp
end
end Go.Proofs.YtoliiompofonlaaDoor
