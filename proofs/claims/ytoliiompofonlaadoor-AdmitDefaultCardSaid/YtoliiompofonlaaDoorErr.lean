
/- errors.Is at two sentinels, and bullanum.Num: the number of an error. -/
import Derived.Test.YtoliiompofonlaaDoorBase
import Derived.Stop.Asserts
import Derived.RowKitTokens
namespace Go.Proofs.YtoliiompofonlaaDoor
set_option linter.unusedVariables false
open Go.RowKit Go.Extern.Stop Go.Stop Go.Extern

theorem isTypeOf (v : Value) (w : World) : (callFunc 121 #[.iface 235 v]).run Tryd.prog w = .ok (.value (.iface 191 (.agg #[.pointer (some ⟨31, 235, none⟩)]))) w := by kernel_rfl
theorem isComparable (w : World) : (callFunc 216 #[.agg #[.pointer (some ⟨31, 235, none⟩)]]).run Tryd.prog w = .ok (.value (.bool true)) w := by kernel_rfl
theorem isMethodComparable (v : Value) (w : World) : (Go.method 382 191 v "Comparable").run Tryd.prog w = .ok (216, v) w := by kernel_rfl
theorem isComp : (Tryd.prog.info? 235).map (·.comparable) = some true := by kernel_rfl
theorem isSize : (Tryd.prog.info? 262).map (·.size) = some 1 := by kernel_rfl
theorem noIsE (v : Value) (xT : TypeId) (w : World) : (Instr.typeAssert (.iface 235 v) xT 193 true).run Tryd.prog w = .ok (.tuple #[.nilIface, .bool false]) w := run_typeAssert_lacksB Tryd.underlying193 (by kernel_rfl) (by kernel_rfl) v xT w
theorem noUnwrapE (v : Value) (xT : TypeId) (w : World) : (Instr.typeAssert (.iface 235 v) xT 196 true).run Tryd.prog w = .ok (.tuple #[.nilIface, .bool false]) w := run_typeAssert_lacksB Tryd.underlying196 (by kernel_rfl) (by kernel_rfl) v xT w
theorem noUnwrapsE (v : Value) (xT : TypeId) (w : World) : (Instr.typeAssert (.iface 235 v) xT 198 true).run Tryd.prog w = .ok (.tuple #[.nilIface, .bool false]) w := run_typeAssert_lacksB Tryd.underlying198 (by kernel_rfl) (by kernel_rfl) v xT w

set_option maxHeartbeats 400000 in
theorem is_same (a : Addr) (w : World) :
    Calls Tryd.prog 72 #[.iface 235 (.pointer (some a)), .iface 235 (.pointer (some a))] w fun e w' => e = .returned (.bool true) ∧ w = w' := by
  obtain ⟨i, hi, hcmp⟩ := Option.map_eq_some_iff.1 isComp
  obtain ⟨j, hj, hjs⟩ := Option.map_eq_some_iff.1 isSize
  have tT := isTypeOf
  have cT := isComparable
  have mR := isMethodComparable
  have heq := run_eql_iface_ptr_same (P := Tryd.prog) w a Tryd.underlying32 Tryd.underlying235 hi hcmp hj
  go_enter Tryd.func72, Tryd.ntmps72
  go_wp2
  refine wp_loop_rounds 1 ?_
  rw [rounds_succ]
  go_wp2
  go_ret
  exact ⟨rfl, rfl⟩

set_option maxHeartbeats 400000 in
theorem is_other (a b : Addr) (ca cb : Array Value) (ta tb : TypeId) (w : World) (hne : a ≠ b) (ha : w.heap[a.block]? = some (.cells ca ta (0, 0))) (hb : w.heap[b.block]? = some (.cells cb tb (0, 0))) :
    Calls Tryd.prog 72 #[.iface 235 (.pointer (some a)), .iface 235 (.pointer (some b))] w fun e w' => e = .returned (.bool false) ∧ w = w' := by
  obtain ⟨i, hi, hcmp⟩ := Option.map_eq_some_iff.1 isComp
  obtain ⟨j, hj, hjs⟩ := Option.map_eq_some_iff.1 isSize
  have tT := isTypeOf
  have cT := isComparable
  have mR := isMethodComparable
  have nE := noIsE
  have uE := noUnwrapE
  have vE := noUnwrapsE
  have heq := run_eql_iface_ptr_other (P := Tryd.prog) w Tryd.underlying32 Tryd.underlying235 hi hcmp hj (by rw [hjs]; decide) hne ha hb
  go_enter Tryd.func72, Tryd.ntmps72
  go_wp2
  refine wp_loop_rounds 1 ?_
  rw [rounds_succ]
  go_wp2
  go_ret
  exact ⟨rfl, rfl⟩

/-- errors.Is at the errors m and k + 1. -/
theorem is_ev {w : World} {al : List Addr} (h : Sent w al) (m k : Nat) (hm0 : m ≠ 0) (hm : m ≤ 28) (hk : k < 28) :
    Calls Tryd.prog 72 #[ev al m, ev al (k + 1)] w fun e w' => e = .returned (.bool (decide (m = k + 1))) ∧ w = w' := by
  have hl : al.length = 28 := h.len.trans (by rw [OkG.eq]; rfl)
  obtain ⟨a, ha⟩ : ∃ a, al[m - 1]? = some a := ⟨al[m - 1], List.getElem?_eq_getElem (by omega)⟩
  obtain ⟨b, hb⟩ : ∃ b, al[k]? = some b := ⟨al[k], List.getElem?_eq_getElem (by omega)⟩
  have e1 : ev al m = .iface 235 (.pointer (some a)) := by simp [ev, hm0, ha]
  have e2 : ev al (k + 1) = .iface 235 (.pointer (some b)) := by simp [ev, hb]
  rw [e1, e2]
  by_cases hmk : m = k + 1
  · subst hmk
    simp only [Nat.add_sub_cancel] at ha
    obtain rfl := Option.some.inj (ha.symm.trans hb)
    simp only [decide_true]
    exact is_same a w
  · have hne : a ≠ b := by
      intro e
      subst e
      have all : ∀ i, i < 28 → ((errG gs)[i]?).any (fun g => (lst gs).contains g) = true := by decide
      have get : ∀ i, i < 28 → ∃ g, (errG gs)[i]? = some g ∧ g ∈ lst gs := fun i hi => by
        have h1 := all i hi
        cases h2 : (errG gs)[i]? with
        | none => rw [h2] at h1; cases h1
        | some g => rw [h2] at h1; exact ⟨g, rfl, List.contains_iff_mem.1 h1⟩
      obtain ⟨g1, k1, k2⟩ := get (m - 1) (by omega)
      obtain ⟨g2, k3, k4⟩ := get k hk
      have := h.nd (m - 1) k g1 g2 k1 k2 k3 k4 (ha.trans hb.symm)
      omega
    simp only [hmk, decide_false]
    obtain ⟨ca, ta, h1⟩ := h.row a (List.mem_of_getElem? ha)
    obtain ⟨cb, tb, h2⟩ := h.row b (List.mem_of_getElem? hb)
    exact is_other a b ca cb ta tb w hne h1 h2
end Go.Proofs.YtoliiompofonlaaDoor
