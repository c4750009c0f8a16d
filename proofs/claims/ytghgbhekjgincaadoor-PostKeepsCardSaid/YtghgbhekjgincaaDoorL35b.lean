
/- PostKeeps: the acts that come in. -/
import Derived.Test.YtghgbhekjgincaaDoorL35
import Derived.Test.YtghgbhekjgincaaDoorOpen
namespace Go.Proofs.YtghgbhekjgincaaDoor
set_option linter.unusedVariables false
open Go.RowKit
namespace Am
theorem acts_of_rep {al : List Addr} {St : Nat → Prop} {w : World} {v : Value} (x : List (Int × Bool × ByteArray × Unit)) (d0 : Int × Bool × ByteArray × Unit) (F : Nat → Nat → CV)
    (h : RepC al St w (.rs 3 x.length F) v) (hE : ∀ i, F i 0 = .c (.int .i64 (x.getD i d0).1) ∧ F i 1 = .c (.bool (x.getD i d0).2.1) ∧ F i 2 = .c (.string (x.getD i d0).2.2.1)) : Acts w v (x.map fun p => ⟨p.1, p.2.1, p.2.2.1⟩) := by
  obtain ⟨ao, cap, rfl, h2, h3, h4, h5⟩ := h
  by_cases hx : x = []
  · subst hx
    exact .inl ⟨rfl, ao, cap, rfl⟩
  · have hp : 0 < x.length := List.length_pos_iff.2 hx
    cases ao with
    | none => have := h4 rfl; omega
    | some a =>
      obtain ⟨e1, _, e2⟩ := h5 a rfl hp
      obtain ⟨b, o, sp⟩ := a
      obtain rfl : sp = none := e1
      refine .inr ⟨b, o, cap, by rw [List.length_map], by rw [List.length_map]; exact h2, fun i a ha => ?_⟩
      rw [List.getElem?_map] at ha
      obtain ⟨y, hy, rfl⟩ := Option.map_eq_some_iff.1 ha
      have hi : i < x.length := (List.getElem?_eq_some_iff.1 hy).1
      have e : x.getD i d0 = y := by rw [List.getD_eq_getElem?_getD, hy]; rfl
      obtain ⟨q0, q1, q2⟩ := hE i
      rw [e] at q0 q1 q2
      have key : ∀ j u, j < 3 → F i j = .c u → w.cell? ⟨b, o + i * 3 + j, none⟩ = some u := fun j u hj hu => by
        obtain ⟨v, hv, hr⟩ := e2 i j hi hj
        have hr2 : RepC al St w (F i j) v := hr
        rw [hu] at hr2
        rw [show v = u from hr2] at hv
        rw [← hv, Nat.add_assoc]
      exact ⟨key 0 _ (by decide) q0, key 1 _ (by decide) q1, key 2 _ (by decide) q2⟩
theorem postKeeps_law {al : List Addr} {St : Nat → Prop} {w : World} {v : Value} (x : List (Int × Bool × ByteArray × Unit)) (d0 : Int × Bool × ByteArray × Unit) (room : Int) (hr1 : -9223372036854775808 ≤ room) (hr2 : room ≤ 9223372036854775807) {F : Nat → Nat → CV}
    (h : RepC al St w (.rs 3 x.length F) v) (hE : ∀ i, F i 0 = .c (.int .i64 (x.getD i d0).1) ∧ F i 1 = .c (.bool (x.getD i d0).2.1) ∧ F i 2 = .c (.string (x.getD i d0).2.2.1)) : Calls Tryd.prog 3 #[.int .i64 room, v] w fun e w' => e = .returned (.bool true) ∧ Below w.heap.size w w' :=
  postKeeps_walk room hr1 hr2 (acts_of_rep x d0 F h hE)
end Am
end Go.Proofs.YtghgbhekjgincaaDoor
