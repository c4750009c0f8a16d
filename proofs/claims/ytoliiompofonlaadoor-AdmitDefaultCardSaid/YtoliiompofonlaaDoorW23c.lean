
/- Chapter 23: what passes by usages; the sieve; the greatest. -/
import Derived.Test.YtoliiompofonlaaDoorW23b
import Derived.Test.YtoliiompofonlaaDoorAmC
namespace Go.Proofs.YtoliiompofonlaaDoor
set_option linter.unusedVariables false
namespace Am
variable {gs : List Nat} [OkG gs]
open Go.RowKit
set_option maxRecDepth 100000

section
variable {P : Program} {G : Gh} {s : AS} {o : Oper} {x y : Operand} {t u : TypeId} {k : IntKind} {a b : Int}
theorem rd_andNot (ho : o.op = .binOp .andNot t x y u) (hx : s.eval x = .c (.int k a)) (hy : s.eval y = .c (.int k b)) : ARd P G o s (.c (.int k (k.wrap (BitVec.ofInt k.bits a &&& ~~~ BitVec.ofInt k.bits b).toNat))) :=
  rd_bin ho hx hy fun W => by simp [binS, eqGuard, binOp, Op.intBits]
theorem end_pack {fn : Func} {Q : CV → List (Option Nat × Res) → Prop} {e : Exit} {γ : Type} {gd : γ → Nat} {E : γ → List (Option Nat × Res)} (he : e = .ret ∨ e = .normal) (v : CV) (z : γ) (l : List Nat) (hl : l.Nodup) (hH : pickL s.H l = E z ++ []) (hres : ARes P G fn s v) (hq : Q v [objE (gd z) gd E]) : bodyR P G fn Q e s := by
  have h : ∃ r H', ARes P G fn s r ∧ Q r H' ∧ ∀ St a w, RelSt G St s a w → HRel G.al St w G.w0.heap.size G.F0 H' := ⟨v, _, hres, hq, fun _ _ _ hr => (hr.hp.pick l hl hH).pack z⟩
  rcases he with rfl | rfl <;> exact h
end
/-- the bits of a that b lacks -/
def lackB (a b : Int) : Int := IntKind.i64.wrap (BitVec.ofInt 64 a &&& ~~~ BitVec.ofInt 64 b).toNat
theorem pass3_ac {gs : List Nat} (q : Q5) (r : G5) : ACp gs Tryd.prog 62 (grC r :: (List.range 1).map (fl [.rp 7 (reqF q)])) (.c (.bool (decide (lackB q.2.2.1 r.2.2.2.1 = 0)))) := by
  refine ac_of 10 Tryd.func62 rfl rfl rfl (fun al w0 F0 St0 => ?_)
  refine code_seq ?_
  refine code_region ?_
  refine seq_ex (wanted_none rfl) (e_box (n := 5) rfl rfl rfl rfl rfl rfl (fun p1 => ?_))
  refine q_rd (wanted_none rfl) rfl rfl (rd_assign (v := .c _) rfl rfl) ?_
  refine seq_nil ?_
  refine then_norm ?_
  refine code_seq ?_
  refine code_region ?_
  first | refine q_rd (wanted_none rfl) rfl rfl (rd_faddrO rfl rfl Tryd.underlying26 rfl sz3 rfl) ?_ | refine q_rd (wanted_none rfl) rfl rfl (rd_faddrR rfl rfl Tryd.underlying26 rfl sz3 rfl) ?_
  first | refine q_rdO (wanted_none rfl) rfl rfl (rd_loadO (v := .c _) rfl rfl (.inl rfl) Tryd.underlying3 ag3 (by first | decide | (first | omega | decide | (dsimp only at *; omega))) rfl) ?_ | refine q_rd (wanted_none rfl) rfl rfl (rd_loadR (v := .c _) rfl rfl Tryd.underlying3 ag3 (by first | decide | (first | omega | decide | (dsimp only at *; omega))) rfl) ?_ | refine q_rdO (wanted_none rfl) rfl rfl (rd_loadO (v := .c _) rfl rfl (.inr rfl) Tryd.underlying3 ag3 (by first | decide | (first | omega | decide | (dsimp only at *; omega))) rfl) ?_
  first | refine q_rd (wanted_none rfl) rfl rfl (rd_faddrO rfl rfl Tryd.underlying100 rfl sz3 rfl) ?_ | refine q_rd (wanted_none rfl) rfl rfl (rd_faddrR rfl rfl Tryd.underlying100 rfl sz3 rfl) ?_
  first | refine q_rdO (wanted_none rfl) rfl rfl (rd_loadO (v := .c _) rfl rfl (.inl rfl) Tryd.underlying3 ag3 (by first | decide | (first | omega | decide | (dsimp only at *; omega))) rfl) ?_ | refine q_rd (wanted_none rfl) rfl rfl (rd_loadR (v := .c _) rfl rfl Tryd.underlying3 ag3 (by first | decide | (first | omega | decide | (dsimp only at *; omega))) rfl) ?_ | refine q_rdO (wanted_none rfl) rfl rfl (rd_loadO (v := .c _) rfl rfl (.inr rfl) Tryd.underlying3 ag3 (by first | decide | (first | omega | decide | (dsimp only at *; omega))) rfl) ?_
  refine q_rd (wanted_none rfl) rfl rfl (rd_andNot rfl rfl rfl) ?_
  refine q_rd (wanted_none rfl) rfl rfl (rd_eqI rfl rfl rfl) ?_
  refine q_rd (wanted_none rfl) rfl rfl (rd_assign (v := .c _) rfl rfl) ?_
  refine seq_nil ?_
  refine then_norm ?_
  refine code_ret ?_
  refine end_val (.inl rfl) (res_1 rfl (arv_tmp rfl)) ?_
  exact CEnt.refl _
/-! ### the sieve -/
def sE (l : List G5) (k : Nat) (z : Nat × Option Nat) : List (Option Nat × Res) := [(some z.1, .blk 2 (fl [.os 1 z.2 0 l.length 5, .err k])), (z.2, .blk (l.length * 5) (gtF l))]
def sieveO (n : Nat) (l : List G5) (k : Nat) : Option Nat × Res := objE n (fun z : Nat × Option Nat => z.1) (sE l k)
def keepS (p : G5 → Bool) (e : Nat) (l : List G5) (k : Nat) : List G5 × Nat := if k ≠ 0 then (l, k) else (l.filter p, if l.filter p = [] then e else 0)
theorem keepS_bad {p : G5 → Bool} {e : Nat} {l : List G5} {k : Nat} (h : k ≠ 0) : keepS p e l k = (l, k) := if_pos h
theorem keepS_good {p : G5 → Bool} {e : Nat} {l : List G5} {k : Nat} (h : k = 0) : keepS p e l k = (l.filter p, if l.filter p = [] then e else 0) := if_neg (by omega)
theorem nn_filter {p : G5 → Bool} (l : List G5) : (l.filter fun r => !!p r) = l.filter p := by
  congr 1; funext r; simp
set_option maxHeartbeats 1000000 in
theorem keep_ac {gs : List Nat} {f : FuncId} {m : Nat} {fv : Nat → CV} (hc : calleeB Tryd.prog f = true) (n : Nat) (l : List G5) (k e : Nat) (hl : l.length ≤ 1000000) (p : G5 → Bool) (hp : ∀ r, ACp gs Tryd.prog f (grC r :: (List.range m).map fv) (.c (.bool (p r)))) :
    AC gs Tryd.prog 59 [sieveO n l k] [.op 0 (some n) 0, .err e, .fn f m fv] (fun r H' => r = .c (.tuple #[]) ∧ H' = [sieveO n (keepS p e l k).1 (keepS p e l k).2]) := by
  refine ac_of 30 Tryd.func59 rfl rfl rfl (fun al w0 F0 St0 => ?_)
  refine code_seq ?_
  refine code_unpack 0 rfl fun z hz => ?_
  obtain ⟨n', gl⟩ := z
  obtain rfl : n' = n := hz
  refine code_region ?_
  refine seq_ex (wanted_none rfl) (e_box (n := 1) rfl rfl rfl rfl rfl rfl (fun p1 => ?_))
  refine seq_nil ?_
  refine then_norm ?_
  refine code_seq ?_
  refine code_seq ?_
  refine code_region ?_
  first | refine q_rd (wanted_none rfl) rfl rfl (rd_move (v := .op _ _ _) rfl rfl) ?_ | refine q_rd (wanted_none rfl) rfl rfl (rd_move (v := .rp _ _) rfl rfl) ?_ | refine q_rd (wanted_none rfl) rfl rfl (rd_move (v := .c _) rfl rfl) ?_ | refine q_rd (wanted_none rfl) rfl rfl (rd_move (v := .pv _) rfl rfl) ?_ | refine q_rd (wanted_none rfl) rfl rfl (rd_move (v := .top) rfl rfl) ?_
  first | refine q_rd (wanted_none rfl) rfl rfl (rd_nilO rfl rfl) ?_ | refine q_rd (wanted_none rfl) rfl rfl (rd_nilR rfl rfl) ?_ | refine q_rd (wanted_none rfl) rfl rfl (rd_nilF rfl rfl) ?_
  first | refine q_rd (wanted_none rfl) rfl rfl (rd_faddrO rfl rfl Tryd.underlying106 rfl sz32 rfl) ?_ | refine q_rd (wanted_none rfl) rfl rfl (rd_faddrR rfl rfl Tryd.underlying106 rfl sz32 rfl) ?_
  first | refine q_rdO (wanted_none rfl) rfl rfl (rd_loadO (v := .err _) rfl rfl (.inl rfl) Tryd.underlying32 ag32 (by first | decide | (first | omega | decide | (dsimp only at *; omega))) rfl) ?_ | refine q_rdO (wanted_none rfl) rfl rfl (rd_loadO (v := .c _) rfl rfl (.inl rfl) Tryd.underlying32 ag32 (by first | decide | (first | omega | decide | (dsimp only at *; omega))) rfl) ?_ | refine q_rdO (wanted_none rfl) rfl rfl (rd_loadO (v := .pv _) rfl rfl (.inl rfl) Tryd.underlying32 ag32 (by first | decide | (first | omega | decide | (dsimp only at *; omega))) rfl) ?_ | refine q_rdO (wanted_none rfl) rfl rfl (rd_loadO (v := .top) rfl rfl (.inl rfl) Tryd.underlying32 ag32 (by first | decide | (first | omega | decide | (dsimp only at *; omega))) rfl) ?_ | refine q_rd (wanted_none rfl) rfl rfl (rd_loadR (v := .err _) rfl rfl Tryd.underlying32 ag32 (by first | decide | (first | omega | decide | (dsimp only at *; omega))) rfl) ?_ | refine q_rd (wanted_none rfl) rfl rfl (rd_loadR (v := .c _) rfl rfl Tryd.underlying32 ag32 (by first | decide | (first | omega | decide | (dsimp only at *; omega))) rfl) ?_ | refine q_rd (wanted_none rfl) rfl rfl (rd_loadR (v := .pv _) rfl rfl Tryd.underlying32 ag32 (by first | decide | (first | omega | decide | (dsimp only at *; omega))) rfl) ?_ | refine q_rd (wanted_none rfl) rfl rfl (rd_loadR (v := .top) rfl rfl Tryd.underlying32 ag32 (by first | decide | (first | omega | decide | (dsimp only at *; omega))) rfl) ?_ | refine q_rdO (wanted_none rfl) rfl rfl (rd_loadO (v := .err _) rfl rfl (.inr rfl) Tryd.underlying32 ag32 (by first | decide | (first | omega | decide | (dsimp only at *; omega))) rfl) ?_ | refine q_rdO (wanted_none rfl) rfl rfl (rd_loadO (v := .c _) rfl rfl (.inr rfl) Tryd.underlying32 ag32 (by first | decide | (first | omega | decide | (dsimp only at *; omega))) rfl) ?_ | refine q_rdO (wanted_none rfl) rfl rfl (rd_loadO (v := .pv _) rfl rfl (.inr rfl) Tryd.underlying32 ag32 (by first | decide | (first | omega | decide | (dsimp only at *; omega))) rfl) ?_ | refine q_rdO (wanted_none rfl) rfl rfl (rd_loadO (v := .top) rfl rfl (.inr rfl) Tryd.underlying32 ag32 (by first | decide | (first | omega | decide | (dsimp only at *; omega))) rfl) ?_
  first | refine q_rd (wanted_none rfl) rfl rfl (rd_neE rfl rfl) ?_ | refine q_rd (wanted_none rfl) rfl rfl (rd_neE0 rfl rfl) ?_
  refine seq_nil ?_
  refine then_norm ?_
  first | refine code_condSD rfl rfl (fun h52 => ?_) (fun h52 => ?_) | refine code_condS rfl rfl (fun h52 => ?_) (fun h52 => ?_)
  · refine code_ret ?_
    refine then_ret ?_
    rw [keepS_bad (show k ≠ 0 by simpa using h52)]
    exact end_pack (gd := fun z : Nat × Option Nat => z.1) (E := sE l k) (.inl rfl) _ (n', gl) [0, 1] (by decide) rfl (res_0 rfl) ⟨rfl, rfl⟩
  · refine code_skip ?_
    refine then_norm ?_
    refine code_seq ?_
    obtain rfl : k = 0 := by simpa using h52
    refine code_region ?_
    first | refine q_rd (wanted_none rfl) rfl rfl (rd_move (v := .op _ _ _) rfl rfl) ?_ | refine q_rd (wanted_none rfl) rfl rfl (rd_move (v := .rp _ _) rfl rfl) ?_ | refine q_rd (wanted_none rfl) rfl rfl (rd_move (v := .c _) rfl rfl) ?_ | refine q_rd (wanted_none rfl) rfl rfl (rd_move (v := .pv _) rfl rfl) ?_ | refine q_rd (wanted_none rfl) rfl rfl (rd_move (v := .top) rfl rfl) ?_
    first | refine q_rd (wanted_none rfl) rfl rfl (rd_move (v := .op _ _ _) rfl rfl) ?_ | refine q_rd (wanted_none rfl) rfl rfl (rd_move (v := .rp _ _) rfl rfl) ?_ | refine q_rd (wanted_none rfl) rfl rfl (rd_move (v := .c _) rfl rfl) ?_ | refine q_rd (wanted_none rfl) rfl rfl (rd_move (v := .pv _) rfl rfl) ?_ | refine q_rd (wanted_none rfl) rfl rfl (rd_move (v := .top) rfl rfl) ?_
    first | refine q_rd (wanted_none rfl) rfl rfl (rd_nilO rfl rfl) ?_ | refine q_rd (wanted_none rfl) rfl rfl (rd_nilR rfl rfl) ?_ | refine q_rd (wanted_none rfl) rfl rfl (rd_nilF rfl rfl) ?_
    first | refine q_rd (wanted_none rfl) rfl rfl (rd_faddrO rfl rfl Tryd.underlying106 rfl sz29 rfl) ?_ | refine q_rd (wanted_none rfl) rfl rfl (rd_faddrR rfl rfl Tryd.underlying106 rfl sz29 rfl) ?_
    first | refine q_rdO (wanted_none rfl) rfl rfl (rd_loadO (v := .rs _ _ _) rfl rfl (.inl rfl) Tryd.underlying29 ag29 (by first | decide | (first | omega | decide | (dsimp only at *; omega))) rfl) ?_ | refine q_rdO (wanted_none rfl) rfl rfl (rd_loadO (v := .os _ _ _ _ _) rfl rfl (.inl rfl) Tryd.underlying29 ag29 (by first | decide | (first | omega | decide | (dsimp only at *; omega))) rfl) ?_ | refine q_rdO (wanted_none rfl) rfl rfl (rd_loadO (v := .c _) rfl rfl (.inl rfl) Tryd.underlying29 ag29 (by first | decide | (first | omega | decide | (dsimp only at *; omega))) rfl) ?_ | refine q_rdO (wanted_none rfl) rfl rfl (rd_loadO (v := .pv _) rfl rfl (.inl rfl) Tryd.underlying29 ag29 (by first | decide | (first | omega | decide | (dsimp only at *; omega))) rfl) ?_ | refine q_rdO (wanted_none rfl) rfl rfl (rd_loadO (v := .top) rfl rfl (.inl rfl) Tryd.underlying29 ag29 (by first | decide | (first | omega | decide | (dsimp only at *; omega))) rfl) ?_ | refine q_rd (wanted_none rfl) rfl rfl (rd_loadR (v := .rs _ _ _) rfl rfl Tryd.underlying29 ag29 (by first | decide | (first | omega | decide | (dsimp only at *; omega))) rfl) ?_ | refine q_rd (wanted_none rfl) rfl rfl (rd_loadR (v := .os _ _ _ _ _) rfl rfl Tryd.underlying29 ag29 (by first | decide | (first | omega | decide | (dsimp only at *; omega))) rfl) ?_ | refine q_rd (wanted_none rfl) rfl rfl (rd_loadR (v := .c _) rfl rfl Tryd.underlying29 ag29 (by first | decide | (first | omega | decide | (dsimp only at *; omega))) rfl) ?_ | refine q_rd (wanted_none rfl) rfl rfl (rd_loadR (v := .pv _) rfl rfl Tryd.underlying29 ag29 (by first | decide | (first | omega | decide | (dsimp only at *; omega))) rfl) ?_ | refine q_rd (wanted_none rfl) rfl rfl (rd_loadR (v := .top) rfl rfl Tryd.underlying29 ag29 (by first | decide | (first | omega | decide | (dsimp only at *; omega))) rfl) ?_ | refine q_rdO (wanted_none rfl) rfl rfl (rd_loadO (v := .rs _ _ _) rfl rfl (.inr rfl) Tryd.underlying29 ag29 (by first | decide | (first | omega | decide | (dsimp only at *; omega))) rfl) ?_ | refine q_rdO (wanted_none rfl) rfl rfl (rd_loadO (v := .os _ _ _ _ _) rfl rfl (.inr rfl) Tryd.underlying29 ag29 (by first | decide | (first | omega | decide | (dsimp only at *; omega))) rfl) ?_ | refine q_rdO (wanted_none rfl) rfl rfl (rd_loadO (v := .c _) rfl rfl (.inr rfl) Tryd.underlying29 ag29 (by first | decide | (first | omega | decide | (dsimp only at *; omega))) rfl) ?_ | refine q_rdO (wanted_none rfl) rfl rfl (rd_loadO (v := .pv _) rfl rfl (.inr rfl) Tryd.underlying29 ag29 (by first | decide | (first | omega | decide | (dsimp only at *; omega))) rfl) ?_ | refine q_rdO (wanted_none rfl) rfl rfl (rd_loadO (v := .top) rfl rfl (.inr rfl) Tryd.underlying29 ag29 (by first | decide | (first | omega | decide | (dsimp only at *; omega))) rfl) ?_
    refine seq_ent (freeze 2 rfl) ?_
    refine seq_ent (thawP 5 (m := 1) rfl rfl (by decide)) ?_
    refine q_rd (wanted_none rfl) rfl rfl (rd_makeFunc rfl rfl) ?_
    refine seq_md (wanted_none rfl) (m_callO (i := 1) rfl (by kernel_rfl) rfl (gdel_ac (n := 1) (fv := fl [.rp 1 fun _ => .fn f m fv]) (by kernel_rfl) _ l (by omega) (fun r => !p r) (fun r => keepNot_ac hc p hp r)) (.cons (se rfl (CEnt.osI rfl)) (.cons (se rfl (CEnt.fn1 (CEnt.rp fn_box))) .nil)) rfl rfl (fun p2 => ?_))
    first | refine q_rd (wanted_none rfl) rfl rfl (rd_nilO rfl rfl) ?_ | refine q_rd (wanted_none rfl) rfl rfl (rd_nilR rfl rfl) ?_ | refine q_rd (wanted_none rfl) rfl rfl (rd_nilF rfl rfl) ?_
    first | refine q_rd (wanted_none rfl) rfl rfl (rd_faddrO rfl rfl Tryd.underlying106 rfl sz29 rfl) ?_ | refine q_rd (wanted_none rfl) rfl rfl (rd_faddrR rfl rfl Tryd.underlying106 rfl sz29 rfl) ?_
    refine seq_md (wanted_none rfl) (m_store rfl rfl rfl rfl rfl sz29 rfl rfl (by first | decide | (first | omega | decide | (dsimp only at *; omega))) (fl [.os 1 p2 0 (l.filter fun r => !!p r).length 5, .err 0]) (fun j hj => by rcases j with _ | _ | j <;> first | exact CEnt.refl _ | exact CEnt.osI rfl | omega) rfl ?_)
    refine seq_nil ?_
    refine then_norm ?_
    refine code_seq ?_
    refine code_region ?_
    first | refine q_rd (wanted_none rfl) rfl rfl (rd_move (v := .op _ _ _) rfl rfl) ?_ | refine q_rd (wanted_none rfl) rfl rfl (rd_move (v := .rp _ _) rfl rfl) ?_ | refine q_rd (wanted_none rfl) rfl rfl (rd_move (v := .c _) rfl rfl) ?_ | refine q_rd (wanted_none rfl) rfl rfl (rd_move (v := .pv _) rfl rfl) ?_ | refine q_rd (wanted_none rfl) rfl rfl (rd_move (v := .top) rfl rfl) ?_
    first | refine q_rd (wanted_none rfl) rfl rfl (rd_nilO rfl rfl) ?_ | refine q_rd (wanted_none rfl) rfl rfl (rd_nilR rfl rfl) ?_ | refine q_rd (wanted_none rfl) rfl rfl (rd_nilF rfl rfl) ?_
    first | refine q_rd (wanted_none rfl) rfl rfl (rd_faddrO rfl rfl Tryd.underlying106 rfl sz29 rfl) ?_ | refine q_rd (wanted_none rfl) rfl rfl (rd_faddrR rfl rfl Tryd.underlying106 rfl sz29 rfl) ?_
    first | refine q_rdO (wanted_none rfl) rfl rfl (rd_loadO (v := .rs _ _ _) rfl rfl (.inl rfl) Tryd.underlying29 ag29 (by first | decide | (first | omega | decide | (dsimp only at *; omega))) rfl) ?_ | refine q_rdO (wanted_none rfl) rfl rfl (rd_loadO (v := .os _ _ _ _ _) rfl rfl (.inl rfl) Tryd.underlying29 ag29 (by first | decide | (first | omega | decide | (dsimp only at *; omega))) rfl) ?_ | refine q_rdO (wanted_none rfl) rfl rfl (rd_loadO (v := .c _) rfl rfl (.inl rfl) Tryd.underlying29 ag29 (by first | decide | (first | omega | decide | (dsimp only at *; omega))) rfl) ?_ | refine q_rdO (wanted_none rfl) rfl rfl (rd_loadO (v := .pv _) rfl rfl (.inl rfl) Tryd.underlying29 ag29 (by first | decide | (first | omega | decide | (dsimp only at *; omega))) rfl) ?_ | refine q_rdO (wanted_none rfl) rfl rfl (rd_loadO (v := .top) rfl rfl (.inl rfl) Tryd.underlying29 ag29 (by first | decide | (first | omega | decide | (dsimp only at *; omega))) rfl) ?_ | refine q_rd (wanted_none rfl) rfl rfl (rd_loadR (v := .rs _ _ _) rfl rfl Tryd.underlying29 ag29 (by first | decide | (first | omega | decide | (dsimp only at *; omega))) rfl) ?_ | refine q_rd (wanted_none rfl) rfl rfl (rd_loadR (v := .os _ _ _ _ _) rfl rfl Tryd.underlying29 ag29 (by first | decide | (first | omega | decide | (dsimp only at *; omega))) rfl) ?_ | refine q_rd (wanted_none rfl) rfl rfl (rd_loadR (v := .c _) rfl rfl Tryd.underlying29 ag29 (by first | decide | (first | omega | decide | (dsimp only at *; omega))) rfl) ?_ | refine q_rd (wanted_none rfl) rfl rfl (rd_loadR (v := .pv _) rfl rfl Tryd.underlying29 ag29 (by first | decide | (first | omega | decide | (dsimp only at *; omega))) rfl) ?_ | refine q_rd (wanted_none rfl) rfl rfl (rd_loadR (v := .top) rfl rfl Tryd.underlying29 ag29 (by first | decide | (first | omega | decide | (dsimp only at *; omega))) rfl) ?_ | refine q_rdO (wanted_none rfl) rfl rfl (rd_loadO (v := .rs _ _ _) rfl rfl (.inr rfl) Tryd.underlying29 ag29 (by first | decide | (first | omega | decide | (dsimp only at *; omega))) rfl) ?_ | refine q_rdO (wanted_none rfl) rfl rfl (rd_loadO (v := .os _ _ _ _ _) rfl rfl (.inr rfl) Tryd.underlying29 ag29 (by first | decide | (first | omega | decide | (dsimp only at *; omega))) rfl) ?_ | refine q_rdO (wanted_none rfl) rfl rfl (rd_loadO (v := .c _) rfl rfl (.inr rfl) Tryd.underlying29 ag29 (by first | decide | (first | omega | decide | (dsimp only at *; omega))) rfl) ?_ | refine q_rdO (wanted_none rfl) rfl rfl (rd_loadO (v := .pv _) rfl rfl (.inr rfl) Tryd.underlying29 ag29 (by first | decide | (first | omega | decide | (dsimp only at *; omega))) rfl) ?_ | refine q_rdO (wanted_none rfl) rfl rfl (rd_loadO (v := .top) rfl rfl (.inr rfl) Tryd.underlying29 ag29 (by first | decide | (first | omega | decide | (dsimp only at *; omega))) rfl) ?_
    first | refine q_rd (wanted_none rfl) rfl rfl (rd_lenR rfl rfl Tryd.underlying29) ?_ | refine q_rd (wanted_none rfl) rfl rfl (rd_lenO rfl rfl Tryd.underlying29) ?_ | refine q_rd (wanted_none rfl) rfl rfl (rd_lenN rfl rfl Tryd.underlying29) ?_
    refine q_rd (wanted_none rfl) rfl rfl (rd_eqI rfl rfl rfl) ?_
    refine seq_nil ?_
    refine then_norm ?_
    first | refine code_condSD rfl rfl (fun h56 => ?_) (fun h56 => ?_) | refine code_condS rfl rfl (fun h56 => ?_) (fun h56 => ?_)
    · refine code_region ?_
      first | refine q_rd (wanted_none rfl) rfl rfl (rd_move (v := .op _ _ _) rfl rfl) ?_ | refine q_rd (wanted_none rfl) rfl rfl (rd_move (v := .rp _ _) rfl rfl) ?_ | refine q_rd (wanted_none rfl) rfl rfl (rd_move (v := .c _) rfl rfl) ?_ | refine q_rd (wanted_none rfl) rfl rfl (rd_move (v := .pv _) rfl rfl) ?_ | refine q_rd (wanted_none rfl) rfl rfl (rd_move (v := .top) rfl rfl) ?_
      first | refine q_rd (wanted_none rfl) rfl rfl (rd_move (v := .err _) rfl rfl) ?_ | refine q_rd (wanted_none rfl) rfl rfl (rd_move (v := .c _) rfl rfl) ?_ | refine q_rd (wanted_none rfl) rfl rfl (rd_move (v := .pv _) rfl rfl) ?_ | refine q_rd (wanted_none rfl) rfl rfl (rd_move (v := .top) rfl rfl) ?_
      first | refine q_rd (wanted_none rfl) rfl rfl (rd_nilO rfl rfl) ?_ | refine q_rd (wanted_none rfl) rfl rfl (rd_nilR rfl rfl) ?_ | refine q_rd (wanted_none rfl) rfl rfl (rd_nilF rfl rfl) ?_
      first | refine q_rd (wanted_none rfl) rfl rfl (rd_faddrO rfl rfl Tryd.underlying106 rfl sz32 rfl) ?_ | refine q_rd (wanted_none rfl) rfl rfl (rd_faddrR rfl rfl Tryd.underlying106 rfl sz32 rfl) ?_
      refine seq_md (wanted_none rfl) (m_store rfl rfl rfl rfl rfl sz32 rfl rfl (by first | decide | (first | omega | decide | (dsimp only at *; omega))) (fl [.os 1 p2 0 (l.filter fun r => !!p r).length 5, .err e]) (fun j hj => by rcases j with _ | _ | j <;> first | exact CEnt.refl _ | exact CEnt.osI rfl | omega) rfl ?_)
      refine seq_nil ?_
      have hf : l.filter p = [] := by rw [← nn_filter]; exact List.length_eq_zero_iff.1 (by omega)
      refine end_pack (gd := fun z : Nat × Option Nat => z.1) (E := sE (l.filter fun r => !!p r) e) (.inr rfl) _ (n', p2) [0, 1] (by decide) rfl (res_0 rfl) ⟨rfl, ?_⟩
      rw [keepS_good rfl, nn_filter, if_pos hf]
      rfl
    · refine code_skip ?_
      have hf : ¬ l.filter p = [] := fun e => by rw [← nn_filter] at e; rw [e] at h56; simp at h56
      refine end_pack (gd := fun z : Nat × Option Nat => z.1) (E := sE (l.filter fun r => !!p r) 0) (.inr rfl) _ (n', p2) [0, 1] (by decide) rfl (res_0 rfl) ⟨rfl, ?_⟩
      rw [keepS_good rfl, nn_filter, if_neg hf]
      rfl
end Am
end Go.Proofs.YtoliiompofonlaaDoor
