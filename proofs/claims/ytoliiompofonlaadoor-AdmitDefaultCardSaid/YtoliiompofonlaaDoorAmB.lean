
/- The abstract walk, more small facts: cap and pieces of a slice that is nil. -/
import Derived.Test.YtoliiompofonlaaDoorAmA
namespace Go.Proofs.YtoliiompofonlaaDoor
set_option linter.unusedVariables false
open Go.RowKit
namespace Am
section
variable {P : Program} {G : Gh} {ops : Array Oper} {o : Oper} {s : AS} {r : List Oper} {K : AS → Prop} {t u : TypeId} {x y : Operand} {env : List (Nat × CV)} {b0 : Nat → CV} {H : List (Option Nat × Res)}
theorem exec_cap {ats : Array TypeId} (ho : o.op = .call ⟨.builtin .cap, #[x], ats⟩) {a : Act} {v : Value} {w : World} (h : (Builtin.cap_ ats o.type #[a.eval x]).run P w = .ok v w) : (execOp a.eval o).run P w = .ok (.value v) w := by
  simp [execOp, ho, resolve, invoke, builtin, h]
theorem rd_capN {e : TypeId} (ho : o.op = .call ⟨.builtin .cap, #[x], #[t]⟩) (hx : s.eval x = .c (.slice none 0 0)) (h1 : P.underlying t = some (.slice e)) : ARd P G o s (.c (.int .i64 0)) := fun St a w h =>
  ⟨_, fun W _ => exec_cap ho (v := .int .i64 0) (by rw [evC h hx]; simp [Builtin.cap_, underlying, h1, goInt]), rfl⟩
theorem rd_sliceN {e : TypeId} {m l v : Nat} {lo hi : Option Operand} (ho : o.op = .slice t x lo hi none) (hx : s.eval x = .c (.slice none 0 0)) (h1 : P.underlying t = some (.slice e)) (h5 : (P.info? e).map (·.size) = some m)
    (hl : Bd s 0 lo l) (hu : Bd s 0 hi v) (hlv : l ≤ v) (hvn : v ≤ 0) : ARd P G o s (.c (.slice none 0 0)) := fun St a w h => by
  obtain ⟨info, hi', hs⟩ := Option.map_eq_some_iff.1 h5
  have hl0 : l = 0 := by omega
  have hv0 : v = 0 := by omega
  subst hl0 hv0
  refine ⟨.slice none 0 0, fun W _ => exec_slice ho ?_, rfl⟩
  rw [evC h hx]
  simp [Instr.sliceAt, Instr.slice, underlying, h1, run_bounds h hl hu hlv hvn (Nat.le_refl _), sizeOf, typeInfo, hi', hs]
theorem run_app_zero {e ty : TypeId} {info : TypeInfo} {z : Value} {n : Nat} {w : World} (h1 : P.underlying t = some (.slice e)) (hu : P.underlying u = some (.int .i64)) (hi : P.info? e = some info) (hz : info.zero = some z) (hk : 0 < info.size) (hn : 0 < n) (h63 : n ≤ 9223372036854775807) (h48 : n * info.bytes ≤ 140737488355328) :
    (Builtin.append_ #[t, u] ty #[.slice none 0 0, .int .i64 (n : Nat)]).run P w = .ok (.slice (some ⟨w.heap.size, 0, none⟩) n (grownCap w n 0 e)) (w.drew.alloc (.cells (#[] ++ Builtin.zeroCells z.cells n ++ Builtin.zeroCells z.cells (grownCap w n 0 e - n)) e)) := by
  have hw : IntKind.i64.wrap (n : Int) = (n : Int) := wrap_id (k := .i64) (by show _ ∧ _; omega)
  have hneg : ¬ ((n : Int) < 0) := by omega
  have hb : ¬ ((n : Int) * (info.bytes : Int) > 2 ^ 48) := by
    have h : ((n * info.bytes : Nat) : Int) ≤ 140737488355328 := by omega
    rw [Int.natCast_mul] at h; omega
  have hnot : ¬ (0 + n ≤ 0) := by omega
  have hfit := growslice_fits (need := n) (old := 0) (by omega) h48
  have h49 : ¬ (Builtin.nextslicecap n 0 * info.bytes > 2 ^ 48) := by omega
  have h64 : ¬ (((n : Nat) : Int) > IntKind.i64.max ∧ (true = true ∨ info.bytes = 0)) := by simp [IntKind.max, IntKind.bits, IntKind.signed]; omega
  have hch : (choose (.appendCap n 0 e)).run P w = .ok (grownCap w n 0 e) w.drew := by simp [Question.forced, grownCap]
  have hns : ¬ (n * info.size = 0) := by have := Nat.mul_pos hn hk; omega
  simp only [Builtin.append_, List.getElem?_toArray, List.getElem?_cons_zero, List.getElem?_cons_succ, underlying, Sem.run_bind, run_program, Result.andThen_ok, h1, hu, Sem.run_pure, sizeOf, typeInfo, hi, asInt, asIntOf, hw, if_neg hneg, if_neg hb, Int.toNat_natCast, Nat.zero_add, if_true, if_neg (show ¬ n ≤ 0 by omega), hz, zeroValue, if_neg h49, hch, run_askRoom, Builtin.firstCells, Bool.not_true, Bool.false_eq_true, if_false, if_neg hns, newRow, run_newObj, World.alloc_eq]
  rw [if_neg (by simp [IntKind.max, IntKind.bits, IntKind.signed]; omega)]
  simp only [Sem.run_bind, run_program, Result.andThen_ok, Sem.run_pure, hi, hz, if_neg h49, hch, run_askRoom, newRow, run_newObj, World.alloc_eq, World.size_drew]
/-- append(nil, make([]T, n)...) -/
theorem e_appZ {e : TypeId} {z : Value} {n k by_ d : Nat} {zn : Int} {F : Nat → CV} (ho : o.op = .call ⟨.builtin .append, #[x, y], #[t, u]⟩) (hx : (⟨env, b0, H⟩ : AS).eval x = .c (.slice none 0 0)) (hy : (⟨env, b0, H⟩ : AS).eval y = .c (.int .i64 zn)) (hn : zn = (n : Int)) (hn0 : 0 < n) (h1 : P.underlying t = some (.slice e)) (hu : P.underlying u = some (.int .i64)) (h5 : (P.info? e).map (·.size) = some k) (hk0 : 0 < k) (hz : (P.info? e).map (·.zero) = some (some z)) (hby : (P.info? e).map (·.bytes) = some by_)
    (h48 : n * by_ ≤ 140737488355328) (h63 : n ≤ 4611686018427387904) (hzk : z.cells.size = k) (hd : o.dst = some d) (hN : Nat.blt d G.N = true)
    (hK : ∀ g, K ⟨(d, .os H.length g 0 n k) :: env, b0, H ++ [(g, .blk 0 F)]⟩) : AEx P G o ⟨env, b0, H⟩ K :=
  AEx.new (dst_s hd hN) (fun g => .os H.length g 0 n k) (fun St a w hr => by
    obtain ⟨info, hi, h6⟩ := Option.map_eq_some_iff.1 h5
    obtain ⟨info', hi', hz⟩ := Option.map_eq_some_iff.1 hz
    obtain rfl := Option.some.inj (hi.symm.trans hi')
    obtain ⟨info', hi', hby⟩ := Option.map_eq_some_iff.1 hby
    obtain rfl := Option.some.inj (hi.symm.trans hi')
    subst hn
    have hrun := run_app_zero (P := P) (t := t) (u := u) (ty := o.type) (w := w) h1 hu hi hz (by omega) hn0 (by omega) (by rw [hby]; exact h48)
    have hgc : n ≤ grownCap w n 0 e ∧ grownCap w n 0 e ≤ 9223372036854775807 := by
      have hlt := Nat.mod_lt (w.tape w.drawn (.appendCap n 0 e)) (show 0 < 2 ^ 63 - n by omega)
      simp only [grownCap, Question.cut]
      omega
    have hsz : (#[] ++ Builtin.zeroCells z.cells n ++ Builtin.zeroCells z.cells (grownCap w n 0 e - n)).size = grownCap w n 0 e * k := by
      simp [Builtin.zeroCells, hzk]
      rw [← Nat.add_mul]
      congr 1
      omega
    have hargs : (#[x, y] : Array Operand).map a.eval = #[a.eval x, a.eval y] := by simp
    refine ⟨w.drew.alloc (.cells (#[] ++ Builtin.zeroCells z.cells n ++ Builtin.zeroCells z.cells (grownCap w n 0 e - n)) e), w.heap.size, _, e, .slice (some ⟨w.heap.size, 0, none⟩) n (grownCap w n 0 e), ?_, below_drewAlloc w _, Nat.le_refl _, heap_alloc_new w.drew _, Nat.zero_le _, fun j hj => absurd hj (Nat.not_lt_zero j), grownCap w n 0 e, rfl, hgc.1, hgc.2, _, e, (0, 0), heap_alloc_new w.drew _, ?_⟩
    · exact exec_append ho (by rw [hargs, evC hr hx, evC hr hy]; exact hrun)
    · rw [hsz]; omega) (fun g => by rw [with_some hd]; exact hK g)
end
theorem CEnt.nilE {n : Nat} (h : n = 0) : CEnt (.c .nilIface) (.err n) := by subst h; exact CEnt.nil
/-- own bytes, from cells that are themselves slices of bytes: read as a list of lists -/
def lbC (ls : List (List UInt8)) : CV := .rs 1 ls.length fun i _ => bsC (ls.getD i [])
theorem thawLB {G : Gh} {s : AS} (d : Nat) {i n N : Nat} {g : Option Nat} {cs : List CV} (ls : List (List UInt8)) (hl : look s.env s.b d = .os i g 0 n 1) (hH : s.H[i]? = some (g, .frz N (fl cs))) (hn : n = ls.length) (hN : Nat.ble n N = true) (he : EntL cs (ls.map bsC)) :
    EntS G s ⟨(d, lbC ls) :: s.env, s.b, s.H⟩ := by
  subst hn
  have hN := Nat.le_of_ble_eq_true hN
  exact thaw d (fun a _ => bsC (ls.getD a [])) hl hH (by omega) (fun a b ha hb => by
    have := (entl_at he).2 a
    rw [fl_at (cs := ls.map bsC) (by simpa using ha)] at this
    obtain rfl : b = 0 := by omega
    rw [show 0 + (a * 1 + 0) = a by omega]
    simpa [List.getD, ha] using this)
/-- the sum of the lengths -/
def sumL (ls : List (List UInt8)) : Nat := (ls.map List.length).sum
theorem sumL_app (a b : List (List UInt8)) : sumL (a ++ b) = sumL a + sumL b := by simp only [sumL, List.map_append, List.sum_append]
theorem sumL_take {ls : List (List UInt8)} {i : Nat} (h : i < ls.length) : sumL (ls.take (i + 1)) = sumL (ls.take i) + (ls.getD i []).length := by
  rw [List.take_succ_eq_append_getElem h, sumL_app]
  simp only [sumL, List.map_cons, List.map_nil, List.sum_cons, List.sum_nil, List.getD, List.getElem?_eq_getElem h, Option.getD_some, Nat.add_zero]
theorem sumL_le (ls : List (List UInt8)) (i : Nat) : sumL (ls.take i) ≤ sumL ls := by
  have h := sumL_app (ls.take i) (ls.drop i)
  rw [List.take_append_drop] at h
  omega
theorem flat_take {ls : List (List UInt8)} {i : Nat} (h : i < ls.length) : (ls.take (i + 1)).flatten = (ls.take i).flatten ++ ls.getD i [] := by
  rw [List.take_succ_eq_append_getElem h, List.flatten_append, List.flatten_singleton]
  simp only [List.getD, List.getElem?_eq_getElem h, Option.getD_some]
theorem flat_len (ls : List (List UInt8)) : ls.flatten.length = sumL ls := by simp [sumL, List.length_flatten]
end Am
end Go.Proofs.YtoliiompofonlaaDoor
