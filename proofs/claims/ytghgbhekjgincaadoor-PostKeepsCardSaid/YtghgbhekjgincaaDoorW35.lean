
/- The walks of chapter 35 (post) at boxes of ints: put, Take. -/
import Derived.Test.YtghgbhekjgincaaDoorProg
import Derived.Conc.LoneCalls
import Derived.Conc.LoneSelect
import Derived.KernelRfl
import Derived.Laws.Rows
namespace Go.Proofs.YtghgbhekjgincaaDoor
open Go.Conc Go.RowKit

set_option maxRecDepth 100000 in
theorem put35_room {w : World} {g c cap s r : Nat} {buf : Array Value} {tm : Bool} (x : Int) (h0 : w.cell? ⟨g, 0, none⟩ = some (.chan (some c))) (hc : w.heap[c]? = some (.chan cap buf false s r tm)) (hr : buf.size < cap) :
    Calls Tryd.prog 83 #[.pointer (some ⟨g, 0, none⟩), .int .i64 x] w fun e w' => e = .returned (.bool true) ∧ w' = w.setChan c cap (buf.push (.int .i64 x)) false (s + 1) r tm := by
  refine calls_of_loneTo fun cs => ?_
  have e : Frame.enter Tryd.prog 83 #[.pointer (some ⟨g, 0, none⟩), .int .i64 x] .normal = (base 83).at ⟨#[.pointer (some ⟨g, 0, none⟩), .int .i64 x, undef, undef, undef, undef, undef, undef, undef, undef, undef, undef, undef], []⟩ [.code (Tryd.f83.body.getD .skip)] := by
    simp [Frame.enter, Frame.at, Tryd.func83, base, Tryd.f83]
  rw [e]
  refine LoneTo.goes (n := 60) ?_
  simp only [Tryd.f83, Option.getD_some]
  s_c stepG_seq
  s_reg
  s_op
  s_c stepG_region_end
  s_c stepG_seq
  s_c stepG_seq
  s_reg
  s_op
  s_op
  s_op
  s_op
  s_c stepG_region_end
  s_reg
  s_op
  s_c stepG_region_end
  s_c stepG_seq
  s_reg
  s_stop
  refine LoneTo.step (step_lone_select_send_room (c := c) (cap := cap) (buf := buf) (s := s) (r := r) (tm := tm) (stepG_comm (cases := #[scase c (.int .i64 x) (.int .i64 0)]) (blocking := false) (shape := .select) (w' := w) rfl rfl (by decide) (by simp [go_sem, execOp, scase, Act.eval])) hc hr) ?_
  rw [Frame.finish_at]
  walk_nrm
  refine LoneTo.goes (n := 40) ?_
  s_op
  s_op
  s_c stepG_region_end
  s_c stepG_block
  s_cond true
  s_c stepG_seq
  s_reg
  s_op
  s_c stepG_region_end
  s_c stepG_ret'
  s_stop
  exact LoneTo.done ⟨.returned (.bool true), _, rfl, ⟨rfl, rfl⟩, rfl, rfl, rfl, rfl, _, Tryd.func83, by simp [results, Tryd.f83, Frame.at]⟩

set_option maxRecDepth 100000 in
theorem put35_full {w : World} {g c cap s r : Nat} {buf : Array Value} {tm : Bool} (x : Int) (h0 : w.cell? ⟨g, 0, none⟩ = some (.chan (some c))) (hc : w.heap[c]? = some (.chan cap buf false s r tm)) (hr : cap ≤ buf.size) :
    Calls Tryd.prog 83 #[.pointer (some ⟨g, 0, none⟩), .int .i64 x] w fun e w' => e = .returned (.bool false) ∧ w' = w := by
  refine calls_of_loneTo fun cs => ?_
  have e : Frame.enter Tryd.prog 83 #[.pointer (some ⟨g, 0, none⟩), .int .i64 x] .normal = (base 83).at ⟨#[.pointer (some ⟨g, 0, none⟩), .int .i64 x, undef, undef, undef, undef, undef, undef, undef, undef, undef, undef, undef], []⟩ [.code (Tryd.f83.body.getD .skip)] := by
    simp [Frame.enter, Frame.at, Tryd.func83, base, Tryd.f83]
  rw [e]
  refine LoneTo.goes (n := 60) ?_
  simp only [Tryd.f83, Option.getD_some]
  s_c stepG_seq
  s_reg
  s_op
  s_c stepG_region_end
  s_c stepG_seq
  s_c stepG_seq
  s_reg
  s_op
  s_op
  s_op
  s_op
  s_c stepG_region_end
  s_reg
  s_op
  s_c stepG_region_end
  s_c stepG_seq
  s_reg
  s_stop
  refine LoneTo.step (step_lone_select_send_full (c := c) (cap := cap) (buf := buf) (s := s) (r := r) (tm := tm) (stepG_comm (cases := #[scase c (.int .i64 x) (.int .i64 0)]) (blocking := false) (shape := .select) (w' := w) rfl rfl (by decide) (by simp [go_sem, execOp, scase, Act.eval])) hc hr) ?_
  rw [Frame.finish_at]
  walk_nrm
  refine LoneTo.goes (n := 40) ?_
  s_op
  s_op
  s_c stepG_region_end
  s_c stepG_block
  s_cond false
  s_c stepG_seq
  s_reg
  s_op
  s_c stepG_region_end
  s_c stepG_ret'
  s_stop
  exact LoneTo.done ⟨.returned (.bool false), _, rfl, ⟨rfl, rfl⟩, rfl, rfl, rfl, rfl, _, Tryd.func83, by simp [results, Tryd.f83, Frame.at]⟩

set_option maxRecDepth 100000 in
theorem take35_some {w : World} {g c cap s r : Nat} {buf : Array Value} {tm : Bool} (x : Int) (h0 : w.cell? ⟨g, 0, none⟩ = some (.chan (some c))) (hc : w.heap[c]? = some (.chan cap buf false s r tm)) (hr : 0 < buf.size) (hx : buf.getD 0 undef = .int .i64 x) :
    Calls Tryd.prog 18 #[.pointer (some ⟨g, 0, none⟩)] w fun e w' => e = .returned (.tuple #[.int .i64 x, .bool true]) ∧ w' = w.setChan c cap (buf.extract 1 buf.size) false s (r + 1) tm := by
  refine calls_of_loneTo fun cs => ?_
  have e : Frame.enter Tryd.prog 18 #[.pointer (some ⟨g, 0, none⟩)] .normal = (base 18).at ⟨#[.pointer (some ⟨g, 0, none⟩), undef, undef, undef, undef, undef, undef, undef, undef, undef, undef, undef, undef, undef, undef, undef], []⟩ [.code (Tryd.f18.body.getD .skip)] := by
    simp [Frame.enter, Frame.at, Tryd.func18, base, Tryd.f18]
  rw [e]
  refine LoneTo.goes (n := 60) ?_
  simp only [Tryd.f18, Option.getD_some]
  s_c stepG_seq
  s_reg
  s_op
  s_op
  s_c stepG_region_end
  s_c stepG_seq
  s_reg
  s_op
  s_op
  s_op
  s_op
  s_c stepG_region_end
  s_c stepG_seq
  s_reg
  s_stop
  refine LoneTo.step (step_lone_select_recv_buf (c := c) (cap := cap) (buf := buf) (closed := false) (s := s) (r := r) (tm := tm) (stepG_comm (cases := #[rcase c (.int .i64 0)]) (blocking := false) (shape := .select) (w' := w) rfl rfl (by decide) (by simp [go_sem, execOp, rcase, Act.eval])) hc hr) ?_
  rw [Frame.finish_at, hx]
  walk_nrm
  refine LoneTo.goes (n := 40) ?_
  s_op
  s_op
  s_c stepG_region_end
  s_c stepG_block
  s_cond true
  s_c stepG_seq
  s_reg
  s_op
  s_op
  s_c stepG_region_end
  s_c stepG_seq
  s_reg
  s_op
  s_op
  s_op
  s_c stepG_region_end
  s_c stepG_ret'
  s_stop
  exact LoneTo.done ⟨.returned (.tuple #[.int .i64 x, .bool true]), _, rfl, ⟨rfl, rfl⟩, rfl, rfl, rfl, rfl, _, Tryd.func18, by simp [results, Tryd.f18, Frame.at]⟩

set_option maxRecDepth 100000 in
theorem take35_none {w : World} {g c cap s r : Nat} {tm : Bool} (h0 : w.cell? ⟨g, 0, none⟩ = some (.chan (some c))) (hc : w.heap[c]? = some (.chan cap #[] false s r tm)) :
    Calls Tryd.prog 18 #[.pointer (some ⟨g, 0, none⟩)] w fun e w' => e = .returned (.tuple #[.int .i64 0, .bool false]) ∧ w' = w := by
  refine calls_of_loneTo fun cs => ?_
  have e : Frame.enter Tryd.prog 18 #[.pointer (some ⟨g, 0, none⟩)] .normal = (base 18).at ⟨#[.pointer (some ⟨g, 0, none⟩), undef, undef, undef, undef, undef, undef, undef, undef, undef, undef, undef, undef, undef, undef, undef], []⟩ [.code (Tryd.f18.body.getD .skip)] := by
    simp [Frame.enter, Frame.at, Tryd.func18, base, Tryd.f18]
  rw [e]
  refine LoneTo.goes (n := 60) ?_
  simp only [Tryd.f18, Option.getD_some]
  s_c stepG_seq
  s_reg
  s_op
  s_op
  s_c stepG_region_end
  s_c stepG_seq
  s_reg
  s_op
  s_op
  s_op
  s_op
  s_c stepG_region_end
  s_c stepG_seq
  s_reg
  s_stop
  refine LoneTo.step (step_lone_select_default (c := c) (cap := cap) (s := s) (r := r) (tm := tm) (stepG_comm (cases := #[rcase c (.int .i64 0)]) (blocking := false) (shape := .select) (w' := w) rfl rfl (by decide) (by simp [go_sem, execOp, rcase, Act.eval])) hc) ?_
  rw [Frame.finish_at]
  walk_nrm
  refine LoneTo.goes (n := 40) ?_
  s_op
  s_op
  s_c stepG_region_end
  s_c stepG_block
  s_cond false
  s_c stepG_seq
  s_reg
  s_op
  s_c stepG_region_end
  s_c stepG_seq
  s_reg
  s_op
  s_op
  s_op
  s_c stepG_region_end
  s_c stepG_ret'
  s_stop
  exact LoneTo.done ⟨.returned (.tuple #[.int .i64 0, .bool false]), _, rfl, ⟨rfl, rfl⟩, rfl, rfl, rfl, rfl, _, Tryd.func18, by simp [results, Tryd.f18, Frame.at]⟩
end Go.Proofs.YtghgbhekjgincaaDoor
