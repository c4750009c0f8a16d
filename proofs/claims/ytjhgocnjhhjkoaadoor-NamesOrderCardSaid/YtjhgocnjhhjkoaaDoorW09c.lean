/- The walks of chapter 9: Right, words, the chapter's example. -/
import Derived.Test.YtjhgocnjhhjkoaaDoorW09b
namespace Go.Proofs.YtjhgocnjhhjkoaaDoor
open Go.RowKit

def wordsObj : Obj := .cells #[.string ⟨#[110, 111, 100, 101]⟩, .string ⟨#[119, 111, 114, 107, 108, 111, 97, 100]⟩, .string ⟨#[111, 112, 101, 114, 97, 116, 111, 114]⟩, .string ⟨#[98, 111, 111, 116]⟩, .string ⟨#[99, 97]⟩] 9
theorem words_any (w : World) : Calls Tryd.prog 49 #[] w fun e w' => e = .returned (.slice (some ⟨w.heap.size, 0, none⟩) 5 5) ∧ w' = w.alloc wordsObj := by
  go_enter Tryd.func49, Tryd.ntmps49
  go_wp2
  go_ret
  exact ⟨rfl, rfl⟩
def rightM (k : Int) (sp nm : List UInt8) : Bool := !decide (k < 1) && !decide (5 < k) && labelM nm && (if k == 2 then labelM sp else sp.isEmpty)

set_option maxRecDepth 100000 in
set_option maxHeartbeats 1000000 in
theorem right_any (k : Int) (sp nm : List UInt8) (w : World) :
    Calls Tryd.prog 48 #[sv k sp nm] w fun e w' => e = .returned (.bool (rightM k sp nm)) ∧ Below w.heap.size w w' := by
  have HN := fun w => Lib.hid (label_any nm w)
  have HS := fun w => Lib.hid (label_any sp w)
  have HF : Hid (rightM k sp nm = (!decide (k < 1) && !decide (5 < k) && labelM nm && (if k == 2 then labelM sp else sp.isEmpty))) := rfl
  unfold sv
  generalize labelM nm = p at *
  generalize labelM sp = q at *
  have H4 : (decide (k < 1) = true ∧ True ∧ True) ∨ (decide (k < 1) = false ∧ decide (5 < k) = true ∧ True) ∨ (decide (k < 1) = false ∧ decide (5 < k) = false ∧ (k == 2) = true) ∨ (decide (k < 1) = false ∧ decide (5 < k) = false ∧ (k == 2) = false) := by
    simp only [decide_eq_true_eq, decide_eq_false_iff_not, beq_iff_eq, beq_eq_false_iff_ne, ne_eq, and_true]
    omega
  rcases H4 with ⟨t1, t2, t3⟩ | ⟨t1, t2, t3⟩ | ⟨t1, t2, t3⟩ | ⟨t1, t2, t3⟩
  · go_enter Tryd.func48, Tryd.ntmps48
    go_wp2
    go_ret
    exact ⟨by rw [HF.out]; simp [t1, t2], balloc _ _⟩
  · go_enter Tryd.func48, Tryd.ntmps48
    go_wp2
    go_ret
    exact ⟨by rw [HF.out]; simp [t1, t2], balloc _ _⟩
  all_goals cases p
  all_goals
    go_enter Tryd.func48, Tryd.ntmps48
    go_wp2_with fail
    refine ((HN _).out).mono ?_
    rintro e w1 ⟨rfl, hB⟩
    have c1 := below_cell hB (show (w.alloc (.cells #[.int .i64 k, .string ⟨sp.toArray⟩, .string ⟨nm.toArray⟩] 59)).cell? ⟨w.heap.size, 1, none⟩ = some (.string ⟨sp.toArray⟩) by simp)
    have c0 := below_cell hB (show (w.alloc (.cells #[.int .i64 k, .string ⟨sp.toArray⟩, .string ⟨nm.toArray⟩] 59)).cell? ⟨w.heap.size, 0, none⟩ = some (.int .i64 k) by simp)
    have HB1 := Lib.hid (below_then (balloc _ _) hB)
    clear hB
    first
      | (go_wp2_with (go_at_call 52; refine ((HS _).out).mono ?_; rintro e w2 ⟨rfl, hB2⟩)
         go_ret
         exact ⟨by rw [HF.out]; simp [t1, t2, t3], below_then HB1.out hB2⟩)
      | (go_wp2
         go_ret
         exact ⟨by rw [HF.out]; simp [t1, t2, t3], HB1.out⟩)
      | trace_state

def shopL : List UInt8 := [115, 104, 111, 112]
def webL : List UInt8 := [119, 101, 98]
theorem right_web : rightM 2 shopL webL = true := by decide

set_option maxRecDepth 100000 in
set_option maxHeartbeats 1000000 in
theorem text_web (w : World) : Calls Tryd.prog 41 #[sv 2 [115, 104, 111, 112] [119, 101, 98]] w fun e w' => e = .returned (.tuple #[.string ⟨#[119, 111, 114, 107, 108, 111, 97, 100, 58, 115, 104, 111, 112, 47, 119, 101, 98]⟩, .nilIface]) ∧ Below w.heap.size w w' := by
  have HR := fun w => Lib.hid (right_any 2 shopL webL w)
  rw [right_web] at HR
  unfold shopL webL at HR
  unfold sv at HR ⊢
  go_enter Tryd.func41, Tryd.ntmps41
  go_wp2_with fail
  refine ((HR _).out).mono ?_
  rintro e w1 ⟨rfl, hB⟩
  have c0 := below_cell hB (show (w.alloc (.cells #[.int .i64 2, .string ⟨#[115, 104, 111, 112]⟩, .string ⟨#[119, 101, 98]⟩] 59)).cell? ⟨w.heap.size, 0, none⟩ = some (.int .i64 2) by simp)
  have c1 := below_cell hB (show (w.alloc (.cells #[.int .i64 2, .string ⟨#[115, 104, 111, 112]⟩, .string ⟨#[119, 101, 98]⟩] 59)).cell? ⟨w.heap.size, 1, none⟩ = some (.string ⟨#[115, 104, 111, 112]⟩) by simp)
  have c2 := below_cell hB (show (w.alloc (.cells #[.int .i64 2, .string ⟨#[115, 104, 111, 112]⟩, .string ⟨#[119, 101, 98]⟩] 59)).cell? ⟨w.heap.size, 2, none⟩ = some (.string ⟨#[119, 101, 98]⟩) by simp)
  have HB1 := Lib.hid (below_then (balloc _ _) hB)
  clear hB
  go_wp2_with fail
  have d0 := Ext.cell c0
  refine wp_region_O [(1, false), (2, false), (3, false), (0, true), (4, false), (5, false), (6, false), (7, false)] (by kernel_rfl) (by kernel_rfl) rfl (by kernel_rfl) (by kernel_rfl) ?_
  simp only [opsOf, List.filterMap_cons, List.filterMap_nil, Option.map_some, List.getElem?_toArray, List.getElem?_cons_zero, List.getElem?_cons_succ]
  repeat (first
    | (refine wpO_skip (by rfl) ?_; (try simp only [Act.put, List.setIfInBounds_toArray, List.set_cons_zero, List.set_cons_succ]))
    | (refine wpO_nocall (by rfl) ?_; (try simp only [Act.put, List.setIfInBounds_toArray, List.set_cons_zero, List.set_cons_succ]))
    | (refine wpO_val (by rfl) ?_; apply Exists.intro; refine ⟨fun nq => ?_, ?_⟩; (focus (go_simp; try (with_reducible rfl); done)); (try simp only [Act.put, List.setIfInBounds_toArray, List.set_cons_zero, List.set_cons_succ]); (try go_ints)))
  refine wpO_call (by rfl) ?_
  apply Exists.intro
  apply Exists.intro
  refine ⟨fun nq => ?_, fun n2 => ?_⟩
  focus (go_simp; first | done | exact ⟨rfl, rfl⟩ | rfl)
  refine (((words_any _).mono (fun e w' h => (⟨h.1, h.2, h.2 ▸ balloc _ _⟩ : _ ∧ _ ∧ Below _ _ _)))).mono ?_
  rintro e w2 ⟨rfl, rfl, hB2⟩
  refine ⟨_, rfl, hB2, ?_⟩
  have HB2 := Lib.hid (below_then (below_then HB1.out n2.below) hB2)
  have HP2 := Lib.hid (below_then n2.below hB2)
  clear hB2
  try simp only [Act.put, List.setIfInBounds_toArray, List.set_cons_zero, List.set_cons_succ]
  have d1 := Ext.cell (show (n2.w.alloc wordsObj).cell? ⟨n2.w.heap.size, 1, none⟩ = some (.string ⟨#[119, 111, 114, 107, 108, 111, 97, 100]⟩) by simp [wordsObj])
  repeat (first
    | (refine wpO_skip (by rfl) ?_; (try simp only [Act.put, List.setIfInBounds_toArray, List.set_cons_zero, List.set_cons_succ]))
    | (refine wpO_nocall (by rfl) ?_; (try simp only [Act.put, List.setIfInBounds_toArray, List.set_cons_zero, List.set_cons_succ]))
    | (refine wpO_val (by rfl) ?_; apply Exists.intro; refine ⟨fun nq => ?_, ?_⟩; (focus (go_simp; try (with_reducible rfl); done)); (try simp only [Act.put, List.setIfInBounds_toArray, List.set_cons_zero, List.set_cons_succ]); (try go_ints)))
  intro nz
  refine NoPanic.normal ?_
  have hB3 := nz.below
  revert hB3
  generalize nz.w = w3
  intro hB3
  clear nz
  have HB3 := Lib.hid (below_then HB2.out hB3)
  have HP3 := Lib.hid hB3
  clear hB3
  have e1 := below_cell (below_then HP2.out HP3.out) c1
  have e2 := below_cell (below_then HP2.out HP3.out) c2
  clear c0 c1 c2 d0 d1 HR
  go_wp2
  go_ret2
  exact ⟨rfl, HB3.out⟩
set_option maxHeartbeats 400000 in
theorem alive09_any (w : World) : Calls Tryd.prog 33 #[] w fun e w' => e = .returned (.bool true) ∧ Below w.heap.size w w' := by
  have HT := fun w => Lib.hid (text_web w)
  unfold sv at HT
  go_enter Tryd.func33, Tryd.ntmps33
  go_wp2_with (go_at_call 41; refine ((HT _).out).mono ?_; rintro e w1 ⟨rfl, hB⟩)
  go_ret
  exact ⟨rfl, hB⟩
end Go.Proofs.YtjhgocnjhhjkoaaDoor
