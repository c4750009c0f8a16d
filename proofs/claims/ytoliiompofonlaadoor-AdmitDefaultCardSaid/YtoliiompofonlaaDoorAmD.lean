
/- The abstract walk: the runes of a text, one by one. -/
import Derived.Test.YtoliiompofonlaaDoorAmC
import Derived.Laws.RangeString
namespace Go.Proofs.YtoliiompofonlaaDoor
set_option linter.unusedVariables false
open Go.RowKit
namespace Am
/-- an iterator over a text -/
def iterOP (l : ByteArray) (pos : Nat) : OP where
  p al St w g F := (∀ b, F b ↔ b = g) ∧ w.heap[g]? = some (.stringIter l pos)
  st := fun he hs hF ⟨h1, h2⟩ => ⟨h1, (hF _ ((h1 _).2 rfl)).trans h2⟩
section
variable {P : Program} {G : Gh} {ops : Array Oper} {o : Oper} {s : AS} {r : List Oper} {K : AS → Prop} {t u : TypeId} {x y : Operand} {env : List (Nat × CV)} {b0 : Nat → CV} {H : List (Option Nat × Res)}
theorem under_below {w w' : World} (h : Below w.heap.size w w') : Under (fun _ => False) w w' := (Under.refl _ w).then h
theorem RelSt.freshObj {St : Nat → Prop} {a : Act} {w w' : World} {g : Nat} {p : OP} (h : RelSt G St s a w) (hb : Below w.heap.size w w') (h1 : w.heap.size ≤ g) (h2 : g < w'.heap.size) (hp : p.p G.al St w' g (fun b => b = g)) : RelSt G St ⟨s.env, s.b, s.H ++ [(some g, .obj p)]⟩ a w' := by
  refine h.after (under_below hb) (fun _ h => h) (fun b h => .inl h) (fun b hs => Nat.lt_of_lt_of_le (h.s3 b hs) hb.size) ⟨fun i b => i = 0 ∧ b = g, fun i q r hi => ?_, fun i j b hi hj => by omega, fun i b hi => ?_, fun i hi b hb => by simp at hi; omega⟩
  · match i, hi with
    | 0, hi =>
      simp at hi
      obtain ⟨rfl, rfl⟩ := hi
      have e : (fun b => (0 : Nat) = 0 ∧ b = g) = fun b => b = g := funext fun b => by simp
      show p.p G.al St w' g (fun b => (0 : Nat) = 0 ∧ b = g)
      rw [e]
      exact hp
    | i + 1, hi => simp at hi
  · obtain ⟨_, rfl⟩ := hi
    exact ⟨h2, fun hs => by have := h.s3 _ hs; omega, .inl h1⟩
/-- a block that is no row turns -/
theorem RelSt.turnObj {St : Nat → Prop} {a : Act} {w w' : World} {i g : Nat} {p p' : OP} (h : RelSt G St s a w) (hH : s.H[i]? = some (some g, .obj p)) (hF : ∀ F, p.p G.al St w g F → (∀ b, F b ↔ b = g)) (hno : ∀ cur t z, w.heap[g]? ≠ some (.cells cur t z))
    (ho : w'.os = w.os) (ht : w'.tape = w.tape) (hout : w'.output = w.output) (hsz : w'.heap.size = w.heap.size) (hold : ∀ b, b ≠ g → w'.heap[b]? = w.heap[b]?) (hp' : p'.p G.al St w' g (fun b => b = g)) : RelSt G St ⟨s.env, s.b, s.H.set i (some g, .obj p')⟩ a w' := by
  obtain ⟨fp, hp⟩ := h.hp
  have hlt : i < s.H.length := (List.getElem?_eq_some_iff.1 hH).1
  have hrep : p.p G.al St w g (fp i) := hp.rep i (some g) _ hH
  have hfi := hF _ hrep
  have hg : fp i g := (hfi g).2 rfl
  obtain ⟨hg1, hg2, hg3⟩ := hp.own i g hg
  have he : Evo St w w' := ⟨fun b cu ct cz hb hcu => (hold b (fun e => hg2 (e ▸ hb))).trans hcu, fun b cu t z hb => ⟨cu, z, (hold b (fun e => hno cu t z (e ▸ hb))).trans hb, rfl⟩⟩
  refine ⟨h.df.keep (fun _ h => h) (fun b hb => hold b (fun e => hg2 (e ▸ hb))), h.sz, fun d => RepC.evo he (fun _ x => x) _ _ (h.env d), ⟨ho.trans h.un.os, ht.trans h.un.tape, hout.trans h.un.output, by rw [hsz]; exact h.un.size, fun k hk hFk => ?_, fun b cu t z hb => ?_⟩, h.s1, h.s2, fun b hb => by rw [hsz]; exact h.s3 b hb, ?_, ?_, h.sg⟩
  · refine (hold k (fun e => ?_)).trans (h.un.block k hk hFk)
    subst e
    rcases hg3 with h1 | h1
    · omega
    · exact hFk h1
  · obtain ⟨cur', z', h1, h2⟩ := h.un.sh b cu t z hb
    obtain ⟨cur2, z2, h3, h4⟩ := he.sh b cur' t z' h1
    exact ⟨cur2, z2, h3, h4.trans h2⟩
  · refine ⟨fp, fun j q r hj => ?_, hp.dis, fun j b hb => by rw [hsz]; exact hp.own j b hb, fun j hj => hp.out j (by simpa using hj)⟩
    by_cases e : j = i
    · subst e
      simp [hlt] at hj
      obtain ⟨rfl, rfl⟩ := hj
      have e2 : fp j = fun b => b = g := funext fun b => propext (hfi b)
      show p'.p G.al St w' g (fp j)
      rw [e2]
      exact hp'
    · rw [List.getElem?_set_ne (Ne.symm e)] at hj
      exact Res.rep_evo he (fun _ x => x) (fun b hFb => hold b (fun e2 => e (hp.dis j i b hFb (e2 ▸ hg)))) (hp.rep j q r hj)
  · exact SentL.keep h.sn (fun q hq => hold q (fun e => hg2 (e ▸ h.sg.1 q hq))) (fun q hq => hold _ (fun e => hg2 (e ▸ h.sg.2 q hq)))

/-- range over a text -/
theorem e_range {l : ByteArray} {d : Nat} (ho : o.op = .range t x) (hx : (⟨env, b0, H⟩ : AS).eval x = .c (.string l)) (h1 : P.underlying t = some .string) (hd : o.dst = some d) (hN : Nat.blt d G.N = true)
    (hK : ∀ g, K ⟨(d, .op H.length (some g) 0) :: env, b0, H ++ [(some g, .obj (iterOP l 0))]⟩) : AEx P G o ⟨env, b0, H⟩ K := fun St a w hr Q => by
  have hrun : (execOp a.eval o).run P w = .ok (.value (.pointer (some ⟨w.heap.size, 0, none⟩))) (w.iter l 0) := by
    simp only [execOp, ho, evC hr hx]
    exact vOk (run_range_string w t l h1)
  unfold Oper.wp
  rw [hrun]
  have hb : Below w.heap.size w (w.iter l 0) := below_alloc w _
  refine ⟨hb, St, fun _ h => h, _, hK w.heap.size, ?_⟩
  have h2 := hr.freshObj (g := w.heap.size) (p := iterOP l 0) hb (Nat.le_refl _) (by show _ < (w.heap.push _).size; simp) ⟨fun b => Iff.rfl, World.iter_heap w l 0⟩
  have := h2.put (dst := o.dst) (v := .op H.length (some w.heap.size) 0) (x := .pointer (some ⟨w.heap.size, 0, none⟩)) (by intro d' hd'; rw [hd] at hd'; cases hd'; exact Nat.le_of_ble_eq_true hN) ⟨_, rfl, rfl⟩
  rw [hd] at this ⊢
  exact this
theorem run_next_any {l : ByteArray} {pos g : Nat} {w : World} (ty : TypeId) (hg : w.heap[g]? = some (.stringIter l pos)) (h : pos < l.size) :
    (Instr.next (.pointer (some ⟨g, 0, none⟩)) true ty).run P w = .ok (.tuple #[.bool true, .int .i64 pos, .int .i32 (Utf8.decode l pos).1]) { w with heap := w.heap.setIfInBounds g (.stringIter l (pos + (Utf8.decode l pos).2)) } := by
  simp [Instr.next, getObj, setObj, Sem.run, hg, h, goInt]
theorem run_next_over {l : ByteArray} {pos g : Nat} {w : World} (ty : TypeId) (hg : w.heap[g]? = some (.stringIter l pos)) (h : ¬ pos < l.size) :
    (Instr.next (.pointer (some ⟨g, 0, none⟩)) true ty).run P w = .ok (.tuple #[.bool false]) w := by
  simp [Instr.next, getObj, Sem.run, hg, h]
/-- the next rune, if there is one -/
theorem m_next {l : ByteArray} {pos i g d : Nat} (ho : o.op = .next x true) (hx : (⟨env, b0, H⟩ : AS).eval x = .op i (some g) 0) (hH : H[i]? = some (some g, .obj (iterOP l pos))) (hd : o.dst = some d) (hN : Nat.blt d G.N = true)
    (h1 : pos < l.size → K ⟨(d, .tup 3 (fl [.c (.bool true), .c (.int .i64 (pos : Nat)), .c (.int .i32 ((Utf8.decode l pos).1 : Nat))])) :: env, b0, H.set i (some g, .obj (iterOP l (pos + (Utf8.decode l pos).2)))⟩)
    (h2 : ¬ pos < l.size → K ⟨(d, .tup 1 (fl [.c (.bool false)])) :: env, b0, H⟩) : AMd P G o ⟨env, b0, H⟩ K := fun St a w hr Q => by
  obtain ⟨b, hb, e0⟩ := evR hr hx
  cases hb
  obtain ⟨fp, hp⟩ := id hr.hp
  obtain ⟨hF, hg⟩ := hp.rep i _ _ hH
  have dlt : ∀ d', o.dst = some d' → d' < G.N := by intro d' hd'; rw [hd] at hd'; cases hd'; exact Nat.le_of_ble_eq_true hN
  by_cases h : pos < l.size
  · have hrun : (execOp a.eval o).run P w = .ok (.value (.tuple #[.bool true, .int .i64 pos, .int .i32 (Utf8.decode l pos).1])) { w with heap := w.heap.setIfInBounds g (.stringIter l (pos + (Utf8.decode l pos).2)) } := by
      simp only [execOp, ho, e0]
      exact vOk (run_next_any _ hg h)
    unfold Oper.wp
    rw [hrun]
    refine ⟨fun b hb => ?_, St, fun _ h => h, _, h1 h, ?_⟩
    · have hne : b ≠ g := fun e => (hp.own i g ((hF g).2 rfl)).2.1 (e ▸ hb)
      simp [Array.getElem?_setIfInBounds_ne (Ne.symm hne)]
    have hlt : g < w.heap.size := (Array.getElem?_eq_some_iff.1 hg).1
    have h3 := hr.turnObj (p := iterOP l pos) (p' := iterOP l (pos + (Utf8.decode l pos).2)) (w' := { w with heap := w.heap.setIfInBounds g (.stringIter l (pos + (Utf8.decode l pos).2)) }) hH (fun F h => h.1) (fun cur t z he => by rw [hg] at he; cases he) rfl rfl rfl (by simp) (fun b hb => by simp [Array.getElem?_setIfInBounds_ne (Ne.symm hb)]) ⟨fun b => Iff.rfl, by simp [hlt]⟩
    have := h3.put (dst := o.dst) (v := .tup 3 (fl [.c (.bool true), .c (.int .i64 (pos : Nat)), .c (.int .i32 ((Utf8.decode l pos).1 : Nat))])) (x := .tuple #[.bool true, .int .i64 pos, .int .i32 (Utf8.decode l pos).1]) dlt ⟨_, rfl, rfl, fun j hj => match j, hj with | 0, _ => rfl | 1, _ => rfl | 2, _ => rfl⟩
    rw [hd] at this ⊢
    exact this
  · have hrun : (execOp a.eval o).run P w = .ok (.value (.tuple #[.bool false])) w := by
      simp only [execOp, ho, e0]
      exact vOk (run_next_over _ hg h)
    unfold Oper.wp
    rw [hrun]
    refine ⟨KeepS.refl _ _, St, fun _ h => h, _, h2 h, ?_⟩
    have := hr.put (dst := o.dst) (v := .tup 1 (fl [.c (.bool false)])) (x := .tuple #[.bool false]) dlt ⟨_, rfl, rfl, fun j hj => match j, hj with | 0, _ => rfl⟩
    rw [hd] at this ⊢
    exact this
end
end Am
end Go.Proofs.YtoliiompofonlaaDoor
