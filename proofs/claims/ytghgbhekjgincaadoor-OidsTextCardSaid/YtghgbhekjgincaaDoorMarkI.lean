
/- bullanum.Ints and bullanum.KeptInts: a copy of whole numbers with marked room behind it. -/
import Derived.Test.YtghgbhekjgincaaDoorTy
import Derived.Test.YtghgbhekjgincaaDoorAmI
import Derived.Test.YtghgbhekjgincaaDoorW05d
namespace Go.Proofs.YtghgbhekjgincaaDoor
set_option linter.unusedVariables false
namespace Am
open Go.RowKit
set_option maxRecDepth 100000
/-- a slice of n cells with room up to c, of whose cells m are known -/
def capSV (n m c : Nat) (F : Nat → Value) : SV where
  p St w v := ∃ g, v = .slice (some ⟨g, 0, none⟩) n c ∧ n ≤ m ∧ m ≤ c ∧ c ≤ 9223372036854775807 ∧ St g ∧ ∃ cur t z, w.heap[g]? = some (.cells cur t z) ∧ c ≤ cur.size ∧ ∀ i, i < m → cur.getD i undef = F i
  st := fun {St St' w w' v} hs hb ⟨g, h1, h2, h3, h4, h5, cur, t, z, h6, h7, h8⟩ => ⟨g, h1, h2, h3, h4, hs g h5, cur, t, z, hb g cur t z h5 h6, h7, h8⟩
  one := fun {St w v} ⟨g, h1, h2⟩ => by rw [h1]; exact ⟨rfl, rfl⟩
/-- the same, the room unsaid -/
def roomSV (n m : Nat) (F : Nat → Value) : SV where
  p St w v := ∃ c, (capSV n m c F).p St w v
  st := fun {St St' w w' v} hs hb ⟨c, h⟩ => ⟨c, (capSV n m c F).st hs hb h⟩
  one := fun {St w v} ⟨c, h⟩ => (capSV n m c F).one h
theorem addr_add0 (a : Addr) : a.add 0 = a := by cases a; rfl
section
variable {P : Program} {G : Gh} {s : AS} {o : Oper} {x y : Operand} {t e : TypeId} {n m c : Nat} {F : Nat → Value}
theorem rd_capM (ho : o.op = .call ⟨.builtin .cap, #[x], #[t]⟩) (hx : s.eval x = .pv (capSV n m c F)) (h1 : P.underlying t = some (.slice e)) : ARd P G o s (.c (.int .i64 (c : Nat))) := fun St a w h => by
  obtain ⟨g, e0, _⟩ := evR h hx
  exact ⟨_, fun W _ => exec_cap ho (v := .int .i64 (c : Nat)) (by rw [e0]; simp [Builtin.cap_, underlying, h1, goInt]), rfl⟩
theorem rd_sliceM {k : IntKind} {z : Int} (ho : o.op = .slice t x none (some y) none) (hx : s.eval x = .pv (capSV n m c F)) (hy : s.eval y = .c (.int k z)) (hz : z = (c : Int)) (h1 : P.underlying t = some (.slice e)) (h5 : (P.info? e).map (·.size) = some 1) : ARd P G o s (.rs 1 c fun i _ => if i < m then .c (F i) else .top) := fun St a w h => by
  obtain ⟨info, hi', hs⟩ := Option.map_eq_some_iff.1 h5
  obtain ⟨g, e0, h2, h3, h4, h6, cur, ty, zz, hh, hle, hc⟩ := evR h hx
  subst hz
  refine ⟨.slice (some ⟨g, 0, none⟩) c c, fun W _ => exec_slice ho ?_, some ⟨g, 0, none⟩, c, rfl, Nat.le_refl _, h4, (fun h => by cases h), fun ad ha hn => ?_⟩
  · rw [e0]
    simp [Instr.sliceAt, Instr.slice, underlying, h1, Instr.sliceBounds, Instr.sliceBound, evC h hy, asIntOf, sizeOf, typeInfo, hi', hs]
    try (intro _; exact addr_add0 _)
  · cases ha
    refine ⟨rfl, h6, fun i j hi hj => ?_⟩
    have hlt : i < cur.size := by omega
    refine ⟨cur.getD i undef, ?_, ?_⟩
    · show w.cell? ⟨g, 0 + (i * 1 + j), none⟩ = _
      rw [cell_of_row w g _ cur ty zz hh, show 0 + (i * 1 + j) = i by omega]
      simp [hlt, Array.getD]
    · show RepC G.al St w (if i < m then CV.c (F i) else CV.top) (cur.getD i undef)
      by_cases him : i < m
      · exact (congrArg (fun q => RepC G.al St w q (cur.getD i undef)) (if_pos him)).mpr (hc i him)
      · exact (congrArg (fun q => RepC G.al St w q (cur.getD i undef)) (if_neg him)).mpr trivial
theorem rd_sliceK {k : IntKind} {z : Int} {i N : Nat} {g : Option Nat} {F' : Nat → CV} (F : Nat → Value) (ho : o.op = .slice t x none (some y) none) (hx : s.eval x = .os i g 0 m 1) (hy : s.eval y = .c (.int k z)) (hz : z = (n : Int)) (hn : n ≤ m) (hm : 0 < m) (hH : s.H[i]? = some (g, .frz N F')) (hN : m ≤ N) (hF : ∀ j, j < m → CEnt (F' j) (.c (F j))) (h1 : P.underlying t = some (.slice e)) (h5 : (P.info? e).map (·.size) = some 1) : ARd P G o s (.pv (roomSV n m F)) := fun St a w h => by
  obtain ⟨info, hi', hs⟩ := Option.map_eq_some_iff.1 h5
  have he := evR h hx
  subst hz
  cases g with
  | none =>
    obtain ⟨h2, _⟩ := he
    omega
  | some b =>
    obtain ⟨cap, e0, h2, h3, cur, ty, zz, h4, h6⟩ := he
    obtain ⟨fp, hp⟩ := h.hp
    obtain ⟨_, hg, cur', ty', zz', hh, hle, hc⟩ := hp.rep i (some b) _ hH
    have e := h4.symm.trans hh
    cases e
    refine ⟨.slice (some ⟨b, 0, none⟩) n cap, fun W _ => exec_slice ho ?_, cap, b, rfl, hn, h2, h3, hg, cur, ty, zz, h4, by omega, fun j hj => hF j hj _ _ _ _ (hc j (by omega))⟩
    rw [e0]
    simp [Instr.sliceAt, Instr.slice, underlying, h1, Instr.sliceBounds, Instr.sliceBound, evC h hy, asIntOf, sizeOf, typeInfo, hi', hs, show n ≤ cap by omega]
    try (intro _; exact addr_add0 _)
end
def marksI : List Int := [-91, -92, -93, -94]
theorem marksI_get (k : Nat) (h : k < 4) : marksI.getD k 0 = -91 - (k : Int) := by
  rcases k with _ | _ | _ | _ | k
  · rfl
  · rfl
  · rfl
  · rfl
  · omega
def valI (l : List Int) (i : Nat) : Value := .int .i64 ((l ++ marksI).getD i 0)
/-- a copy of whole numbers with four marks behind it -/
def markIC (l : List Int) : CV := .pv (roomSV l.length (l.length + 4) (valI l))
theorem CEnt.markI {l : List Int} : CEnt (markIC l) (isC l) := fun al St w v ⟨c, g, h1, h2, h3, h4, h5, cur, t, z, h6, h7, h8⟩ => by
  refine ⟨_, _, h1, by omega, h4, (fun h => by cases h), fun a ha hn => ?_⟩
  cases ha
  refine ⟨rfl, h5, fun i j hi hj => ⟨cur.getD i undef, ?_, ?_⟩⟩
  · have hlt : i < cur.size := by omega
    rw [show 0 + (i * 1 + j) = i by omega, cell_of_row w g _ cur t z h6]
    simp [hlt]
  · rw [h8 i (by omega)]
    show valI l i = .int .i64 (l.getD i 0)
    unfold valI
    simp [List.getD, List.getElem?_append_left hi]
theorem room_ent {n m m' : Nat} {F : Nat → Value} (h : m = m') : CEnt (.pv (roomSV n m F)) (.pv (roomSV n m' F)) := by subst h; exact CEnt.refl _
set_option maxHeartbeats 1000000 in
theorem ints_ac {gs : List Nat} (l : List Int) (hl : l.length ≤ 1000000) : ACp gs Tryd.prog 54 [isC l] (markIC l) := by
  have hmk : marksI.length = 4 := rfl
  refine ac_of 16 Tryd.func54 rfl rfl rfl (fun al w0 F0 St0 => ?_)
  refine code_seq ?_
  refine code_region ?_
  first | refine q_rd (wanted_none rfl) rfl rfl (rd_assign (v := .rs _ _ _) rfl rfl) ?_ | refine q_rd (wanted_none rfl) rfl rfl (rd_assign (v := .os _ _ _ _ _) rfl rfl) ?_ | refine q_rd (wanted_none rfl) rfl rfl (rd_assign (v := .c _) rfl rfl) ?_ | refine q_rd (wanted_none rfl) rfl rfl (rd_assign (v := .pv _) rfl rfl) ?_ | refine q_rd (wanted_none rfl) rfl rfl (rd_assign (v := .top) rfl rfl) ?_
  refine seq_nil ?_
  refine then_norm ?_
  refine code_seq ?_
  refine code_region ?_
  first | refine q_rd (wanted_none rfl) rfl rfl (rd_move (v := .rs _ _ _) rfl rfl) ?_ | refine q_rd (wanted_none rfl) rfl rfl (rd_move (v := .os _ _ _ _ _) rfl rfl) ?_ | refine q_rd (wanted_none rfl) rfl rfl (rd_move (v := .c _) rfl rfl) ?_ | refine q_rd (wanted_none rfl) rfl rfl (rd_move (v := .pv _) rfl rfl) ?_ | refine q_rd (wanted_none rfl) rfl rfl (rd_move (v := .top) rfl rfl) ?_
  first | refine q_rd (wanted_none rfl) rfl rfl (rd_lenR rfl rfl Tryd.underlying75) ?_ | refine q_rd (wanted_none rfl) rfl rfl (rd_lenO rfl rfl Tryd.underlying75) ?_ | refine q_rd (wanted_none rfl) rfl rfl (rd_lenN rfl rfl Tryd.underlying75) ?_
  refine q_rd (wanted_none rfl) rfl rfl (rd_add rfl rfl rfl (wrap_id (k := .i64) (by show _ ∧ _; (first | omega | decide | (dsimp only at *; omega))))) ?_
  refine seq_ex (wanted_none rfl) (e_make (F := inF []) rfl rfl rfl (show (0 : Int) = ((0 : Nat) : Int) from rfl) (show _ = (((l.length + 4) : Nat) : Int) by first | omega | (simp only [List.length_append, List.length_cons, List.length_nil]; omega)) (by (first | omega | decide | (dsimp only at *; omega))) Tryd.underlying75 sz3 zr3 by3 (by (first | omega | decide | (dsimp only at *; omega))) (by (first | omega | decide | (dsimp only at *; omega))) (fun j hj => absurd hj (by simp)) rfl rfl (fun p1 => ?_))
  first | refine q_rd (wanted_none rfl) rfl rfl (rd_move (v := .rs _ _ _) rfl rfl) ?_ | refine q_rd (wanted_none rfl) rfl rfl (rd_move (v := .os _ _ _ _ _) rfl rfl) ?_ | refine q_rd (wanted_none rfl) rfl rfl (rd_move (v := .c _) rfl rfl) ?_ | refine q_rd (wanted_none rfl) rfl rfl (rd_move (v := .pv _) rfl rfl) ?_ | refine q_rd (wanted_none rfl) rfl rfl (rd_move (v := .top) rfl rfl) ?_
  refine seq_md (wanted_none rfl) (m_appendC rowC_in (l := []) rfl rfl rfl rfl (Nat.zero_le _) (fun j hj => absurd hj (Nat.not_lt_zero j)) (src_rs rfl) rfl (fun j hj => by simp only [Nat.div_one]; exact CEnt.refl _) Tryd.underlying75 nu75 sz3 zr3 by3 rfl (by first | omega | (simp; done) | (simp; omega) | (simp at *; omega)) (by first | omega | (simp; done) | (simp; omega) | (simp at *; omega)) (fun j hj => rfl) rfl rfl (Nat.mul_one _) (fun p2 => ?_))
  refine seq_ex (wanted_none rfl) (e_buildSlice (n := 4) rfl Tryd.underlying75 sz3 zr3 rfl rfl rfl rfl rfl rfl rfl (fun p3 => ?_))
  refine seq_md (wanted_none rfl) (m_appendC rowC_in (l2 := marksI) rfl rfl rfl rfl (by first | exact Nat.le_of_eq (Nat.mul_one _) | omega) (fun _ _ => CEnt.refl _) (src_os rfl (.inl rfl) (by decide)) rfl (hh_ints (.cons (CEnt.int (rfl)) (.cons (CEnt.int (rfl)) (.cons (CEnt.int (rfl)) (.cons (CEnt.int (rfl)) .nil))))) Tryd.underlying75 nu75 sz3 zr3 by3 rfl (by first | omega | (simp; done) | (simp; omega) | (simp at *; omega)) (by first | omega | (simp; done) | (simp; omega) | (simp at *; omega)) (leaf_flk rfl rfl) rfl rfl (Nat.mul_one _) (fun p4 => ?_))
  first | refine q_rd (wanted_none rfl) rfl rfl (rd_assign (v := .rs _ _ _) rfl rfl) ?_ | refine q_rd (wanted_none rfl) rfl rfl (rd_assign (v := .os _ _ _ _ _) rfl rfl) ?_ | refine q_rd (wanted_none rfl) rfl rfl (rd_assign (v := .c _) rfl rfl) ?_ | refine q_rd (wanted_none rfl) rfl rfl (rd_assign (v := .pv _) rfl rfl) ?_ | refine q_rd (wanted_none rfl) rfl rfl (rd_assign (v := .top) rfl rfl) ?_
  refine seq_nil ?_
  refine then_norm ?_
  refine code_seq ?_
  refine code_region ?_
  first | refine q_rd (wanted_none rfl) rfl rfl (rd_move (v := .rs _ _ _) rfl rfl) ?_ | refine q_rd (wanted_none rfl) rfl rfl (rd_move (v := .os _ _ _ _ _) rfl rfl) ?_ | refine q_rd (wanted_none rfl) rfl rfl (rd_move (v := .c _) rfl rfl) ?_ | refine q_rd (wanted_none rfl) rfl rfl (rd_move (v := .pv _) rfl rfl) ?_ | refine q_rd (wanted_none rfl) rfl rfl (rd_move (v := .top) rfl rfl) ?_
  first | refine q_rd (wanted_none rfl) rfl rfl (rd_move (v := .rs _ _ _) rfl rfl) ?_ | refine q_rd (wanted_none rfl) rfl rfl (rd_move (v := .os _ _ _ _ _) rfl rfl) ?_ | refine q_rd (wanted_none rfl) rfl rfl (rd_move (v := .c _) rfl rfl) ?_ | refine q_rd (wanted_none rfl) rfl rfl (rd_move (v := .pv _) rfl rfl) ?_ | refine q_rd (wanted_none rfl) rfl rfl (rd_move (v := .top) rfl rfl) ?_
  first | refine q_rd (wanted_none rfl) rfl rfl (rd_lenR rfl rfl Tryd.underlying75) ?_ | refine q_rd (wanted_none rfl) rfl rfl (rd_lenO rfl rfl Tryd.underlying75) ?_ | refine q_rd (wanted_none rfl) rfl rfl (rd_lenN rfl rfl Tryd.underlying75) ?_
  refine seq_ent (freeze 0 rfl) ?_
  refine q_rd (wanted_none rfl) rfl rfl (rd_sliceK (valI l) rfl rfl rfl rfl (by simp [marksI]) (by simp [marksI]) rfl (Nat.le_refl _) (fun j hj => CEnt.refl _) Tryd.underlying75 sz3) ?_
  first | refine q_rd (wanted_none rfl) rfl rfl (rd_assign (v := .rs _ _ _) rfl rfl) ?_ | refine q_rd (wanted_none rfl) rfl rfl (rd_assign (v := .os _ _ _ _ _) rfl rfl) ?_ | refine q_rd (wanted_none rfl) rfl rfl (rd_assign (v := .c _) rfl rfl) ?_ | refine q_rd (wanted_none rfl) rfl rfl (rd_assign (v := .pv _) rfl rfl) ?_ | refine q_rd (wanted_none rfl) rfl rfl (rd_assign (v := .top) rfl rfl) ?_
  refine seq_nil ?_
  refine then_norm ?_
  refine code_ret ?_
  refine end_val (.inl rfl) (res_1 rfl (arv_tmp rfl)) ?_
  exact (room_ent (by simp [marksI]))
set_option maxHeartbeats 1000000 in
theorem keptI_cap {gs : List Nat} (l : List Int) (c : Nat) (hc : l.length + 4 ≤ c) (hc2 : c ≤ 9223372036854775807) : ACp gs Tryd.prog 56 [.pv (capSV l.length (l.length + 4) c (valI l)), isC l] (.c (.bool true)) := by
  refine ac_of 40 Tryd.func56 rfl rfl rfl (fun al w0 F0 St0 => ?_)
  refine code_seq ?_
  refine code_region ?_
  refine q_rd (wanted_none rfl) rfl rfl (rd_assign (v := .c _) rfl rfl) ?_
  refine seq_nil ?_
  refine then_norm ?_
  refine code_seq ?_
  refine code_region ?_
  first | refine q_rd (wanted_none rfl) rfl rfl (rd_move (v := .rs _ _ _) rfl rfl) ?_ | refine q_rd (wanted_none rfl) rfl rfl (rd_move (v := .os _ _ _ _ _) rfl rfl) ?_ | refine q_rd (wanted_none rfl) rfl rfl (rd_move (v := .c _) rfl rfl) ?_ | refine q_rd (wanted_none rfl) rfl rfl (rd_move (v := .pv _) rfl rfl) ?_ | refine q_rd (wanted_none rfl) rfl rfl (rd_move (v := .top) rfl rfl) ?_
  first | refine q_rd (wanted_none rfl) rfl rfl (rd_move (v := .rs _ _ _) rfl rfl) ?_ | refine q_rd (wanted_none rfl) rfl rfl (rd_move (v := .os _ _ _ _ _) rfl rfl) ?_ | refine q_rd (wanted_none rfl) rfl rfl (rd_move (v := .c _) rfl rfl) ?_ | refine q_rd (wanted_none rfl) rfl rfl (rd_move (v := .pv _) rfl rfl) ?_ | refine q_rd (wanted_none rfl) rfl rfl (rd_move (v := .top) rfl rfl) ?_
  refine q_rd (wanted_none rfl) rfl rfl (rd_capM rfl rfl Tryd.underlying75) ?_
  refine q_rd (wanted_none rfl) rfl rfl (rd_sliceM rfl rfl rfl rfl Tryd.underlying75 sz3) ?_
  first | refine q_rd (wanted_none rfl) rfl rfl (rd_assign (v := .rs _ _ _) rfl rfl) ?_ | refine q_rd (wanted_none rfl) rfl rfl (rd_assign (v := .os _ _ _ _ _) rfl rfl) ?_ | refine q_rd (wanted_none rfl) rfl rfl (rd_assign (v := .c _) rfl rfl) ?_ | refine q_rd (wanted_none rfl) rfl rfl (rd_assign (v := .pv _) rfl rfl) ?_ | refine q_rd (wanted_none rfl) rfl rfl (rd_assign (v := .top) rfl rfl) ?_
  refine seq_nil ?_
  refine then_norm ?_
  refine code_seq ?_
  refine code_seq ?_
  refine code_region ?_
  first | refine q_rd (wanted_none rfl) rfl rfl (rd_move (v := .rs _ _ _) rfl rfl) ?_ | refine q_rd (wanted_none rfl) rfl rfl (rd_move (v := .os _ _ _ _ _) rfl rfl) ?_ | refine q_rd (wanted_none rfl) rfl rfl (rd_move (v := .c _) rfl rfl) ?_ | refine q_rd (wanted_none rfl) rfl rfl (rd_move (v := .pv _) rfl rfl) ?_ | refine q_rd (wanted_none rfl) rfl rfl (rd_move (v := .top) rfl rfl) ?_
  first | refine q_rd (wanted_none rfl) rfl rfl (rd_lenR rfl rfl Tryd.underlying75) ?_ | refine q_rd (wanted_none rfl) rfl rfl (rd_lenO rfl rfl Tryd.underlying75) ?_ | refine q_rd (wanted_none rfl) rfl rfl (rd_lenN rfl rfl Tryd.underlying75) ?_
  first | refine q_rd (wanted_none rfl) rfl rfl (rd_move (v := .rs _ _ _) rfl rfl) ?_ | refine q_rd (wanted_none rfl) rfl rfl (rd_move (v := .os _ _ _ _ _) rfl rfl) ?_ | refine q_rd (wanted_none rfl) rfl rfl (rd_move (v := .c _) rfl rfl) ?_ | refine q_rd (wanted_none rfl) rfl rfl (rd_move (v := .pv _) rfl rfl) ?_ | refine q_rd (wanted_none rfl) rfl rfl (rd_move (v := .top) rfl rfl) ?_
  first | refine q_rd (wanted_none rfl) rfl rfl (rd_lenR rfl rfl Tryd.underlying75) ?_ | refine q_rd (wanted_none rfl) rfl rfl (rd_lenO rfl rfl Tryd.underlying75) ?_ | refine q_rd (wanted_none rfl) rfl rfl (rd_lenN rfl rfl Tryd.underlying75) ?_
  refine q_rd (wanted_none rfl) rfl rfl (rd_add rfl rfl rfl (wrap_id (k := .i64) (by show _ ∧ _; (first | omega | decide | (dsimp only at *; omega))))) ?_
  refine q_rd (wanted_none rfl) rfl rfl (rd_lt rfl rfl rfl) ?_
  refine q_rd (wanted_none rfl) rfl rfl (rd_move (v := .c _) rfl rfl) ?_
  first | refine seq_splitD (d := 17) rfl rfl (fun g109 => ?_) (fun g109 => ?_) | refine seq_split (d := 17) rfl rfl (fun g109 => ?_) (fun g109 => ?_)
  · refine q_skip (wanted_is rfl rfl rfl rfl false rfl) rfl rfl ?_
    refine q_skip (wanted_is rfl rfl rfl rfl false rfl) rfl rfl ?_
    refine q_skip (wanted_is rfl rfl rfl rfl false rfl) rfl rfl ?_
    refine q_skip (wanted_is rfl rfl rfl rfl false rfl) rfl rfl ?_
    refine q_skip (wanted_is rfl rfl rfl rfl false rfl) rfl rfl ?_
    refine q_skip (wanted_is rfl rfl rfl rfl false rfl) rfl rfl ?_
    refine q_skip (wanted_is rfl rfl rfl rfl false rfl) rfl rfl ?_
    refine q_rd (wanted_none rfl) rfl rfl (rd_pickT (v := .c _) rfl rfl rfl) ?_
    refine seq_nil ?_
    refine then_norm ?_
    refine code_condT rfl ?_
    refine code_seq ?_
    refine code_region ?_
    refine q_rd (wanted_none rfl) rfl rfl (rd_assign (v := .c _) rfl rfl) ?_
    refine seq_nil ?_
    refine then_norm ?_
    refine code_ret ?_
    refine then_ret ?_
    refine end_val (.inl rfl) (res_1 rfl (arv_tmp rfl)) ?_
    exfalso
    first | omega | (simp_all; done) | (simp_all; omega)
  · first | refine q_rd (wanted_is rfl rfl rfl rfl true rfl) rfl rfl (rd_move (v := .rs _ _ _) rfl rfl) ?_ | refine q_rd (wanted_is rfl rfl rfl rfl true rfl) rfl rfl (rd_move (v := .os _ _ _ _ _) rfl rfl) ?_ | refine q_rd (wanted_is rfl rfl rfl rfl true rfl) rfl rfl (rd_move (v := .c _) rfl rfl) ?_ | refine q_rd (wanted_is rfl rfl rfl rfl true rfl) rfl rfl (rd_move (v := .pv _) rfl rfl) ?_ | refine q_rd (wanted_is rfl rfl rfl rfl true rfl) rfl rfl (rd_move (v := .top) rfl rfl) ?_
    first | refine q_rd (wanted_is rfl rfl rfl rfl true rfl) rfl rfl (rd_move (v := .rs _ _ _) rfl rfl) ?_ | refine q_rd (wanted_is rfl rfl rfl rfl true rfl) rfl rfl (rd_move (v := .os _ _ _ _ _) rfl rfl) ?_ | refine q_rd (wanted_is rfl rfl rfl rfl true rfl) rfl rfl (rd_move (v := .c _) rfl rfl) ?_ | refine q_rd (wanted_is rfl rfl rfl rfl true rfl) rfl rfl (rd_move (v := .pv _) rfl rfl) ?_ | refine q_rd (wanted_is rfl rfl rfl rfl true rfl) rfl rfl (rd_move (v := .top) rfl rfl) ?_
    first | refine q_rd (wanted_is rfl rfl rfl rfl true rfl) rfl rfl (rd_lenR rfl rfl Tryd.underlying75) ?_ | refine q_rd (wanted_is rfl rfl rfl rfl true rfl) rfl rfl (rd_lenO rfl rfl Tryd.underlying75) ?_ | refine q_rd (wanted_is rfl rfl rfl rfl true rfl) rfl rfl (rd_lenN rfl rfl Tryd.underlying75) ?_
    first | refine q_rd (wanted_is rfl rfl rfl rfl true rfl) rfl rfl (rd_sliceR rfl rfl Tryd.underlying75 sz3 (bd_none _ _) (bd_some rfl (show _ = ((l.length : Nat) : Int) by first | omega | (simp only [List.length_append, List.length_cons, List.length_nil]; omega))) (by (first | omega | decide | (dsimp only at *; omega))) (by (first | omega | decide | (dsimp only at *; omega)))) ?_ | refine q_rd (wanted_is rfl rfl rfl rfl true rfl) rfl rfl (rd_sliceO rfl rfl Tryd.underlying75 sz3 (bd_none _ _) (bd_some rfl (show _ = ((l.length : Nat) : Int) by first | omega | (simp only [List.length_append, List.length_cons, List.length_nil]; omega))) (by (first | omega | decide | (dsimp only at *; omega))) (by (first | omega | decide | (dsimp only at *; omega))) (by (first | omega | decide | (dsimp only at *; omega)))) ?_
    first | refine q_rd (wanted_is rfl rfl rfl rfl true rfl) rfl rfl (rd_move (v := .rs _ _ _) rfl rfl) ?_ | refine q_rd (wanted_is rfl rfl rfl rfl true rfl) rfl rfl (rd_move (v := .os _ _ _ _ _) rfl rfl) ?_ | refine q_rd (wanted_is rfl rfl rfl rfl true rfl) rfl rfl (rd_move (v := .c _) rfl rfl) ?_ | refine q_rd (wanted_is rfl rfl rfl rfl true rfl) rfl rfl (rd_move (v := .pv _) rfl rfl) ?_ | refine q_rd (wanted_is rfl rfl rfl rfl true rfl) rfl rfl (rd_move (v := .top) rfl rfl) ?_
    refine seq_ex (wanted_is rfl rfl rfl rfl true rfl) (e_callP rfl (by kernel_rfl) (sameI_ac l l) (.cons (se rfl (CEnt.rs (by omega) fun i j hi hj => CEnt.of_eq (by rw [if_pos (by omega)]; simp [valI, inF, List.getD, List.getElem?_append_left (show i < l.length by omega)]))) (.cons (se rfl (CEnt.refl _)) .nil)) rfl rfl ?_)
    first | refine q_rd (wanted_is rfl rfl rfl rfl true rfl) rfl rfl (rd_notD rfl rfl) ?_ | refine q_rd (wanted_is rfl rfl rfl rfl true rfl) rfl rfl (rd_not rfl rfl) ?_
    refine q_rd (wanted_none rfl) rfl rfl (rd_pickF (v := .c _) rfl rfl rfl) ?_
    refine seq_nil ?_
    refine then_norm ?_
    first | refine code_condSD rfl rfl (fun h109 => ?_) (fun h109 => ?_) | refine code_condS rfl rfl (fun h109 => ?_) (fun h109 => ?_)
    · refine code_seq ?_
      refine code_region ?_
      refine q_rd (wanted_none rfl) rfl rfl (rd_assign (v := .c _) rfl rfl) ?_
      refine seq_nil ?_
      refine then_norm ?_
      refine code_ret ?_
      refine then_ret ?_
      refine end_val (.inl rfl) (res_1 rfl (arv_tmp rfl)) ?_
      exfalso
      first | omega | (simp_all; done) | (simp_all; omega)
    · refine code_skip ?_
      refine then_norm ?_
      refine code_seq ?_
      refine code_seq ?_
      refine code_region ?_
      refine q_rd (wanted_none rfl) rfl rfl (rd_assign (v := .c _) rfl rfl) ?_
      refine seq_nil ?_
      refine then_norm ?_
      refine code_block ?_
      refine l_loop (α := Nat) [4, 6, 26, 27, 28, 29, 30, 31, 32, 33, 34, 35, 36, 37, 38, 39] (fun i => [(6, .c (.int .i64 (i : Nat)))]) (fun _ => []) (fun i => i ≤ 4) (fun i => 4 - i) (0) ?_ (fun _ => rfl) ?_ ?_ ?_
      · exact Nat.zero_le _
      · (repeat (first | exact EntE.nil | refine EntE.cons (CEnt.refl _) ?_ | refine EntE.cons (CEnt.int (by omega)) ?_))
      · (repeat (first | exact HEnt.nil | refine HEnt.same ?_ | refine HEnt.blk rfl (fun j hj => by rcases j with _|_|_|_|_|_|_|_|j <;> first | exact CEnt.refl _ | exact CEnt.int (by omega) | omega) ?_))
      · rintro i (hi : i ≤ 4)
        refine code_seq ?_
        refine code_seq ?_
        refine code_region ?_
        refine q_rd (wanted_none rfl) rfl rfl (rd_move (v := .c _) rfl rfl) ?_
        refine q_rd (wanted_none rfl) rfl rfl (rd_lt rfl rfl rfl) ?_
        refine seq_nil ?_
        refine then_norm ?_
        first | refine code_condSD rfl rfl (fun h112 => ?_) (fun h112 => ?_) | refine code_condS rfl rfl (fun h112 => ?_) (fun h112 => ?_)
        · refine code_skip ?_
          refine then_norm ?_
          refine code_seq ?_
          refine code_block ?_
          refine code_seq ?_
          refine code_region ?_
          first | refine q_rd (wanted_none rfl) rfl rfl (rd_move (v := .rs _ _ _) rfl rfl) ?_ | refine q_rd (wanted_none rfl) rfl rfl (rd_move (v := .os _ _ _ _ _) rfl rfl) ?_ | refine q_rd (wanted_none rfl) rfl rfl (rd_move (v := .c _) rfl rfl) ?_ | refine q_rd (wanted_none rfl) rfl rfl (rd_move (v := .pv _) rfl rfl) ?_ | refine q_rd (wanted_none rfl) rfl rfl (rd_move (v := .top) rfl rfl) ?_
          first | refine q_rd (wanted_none rfl) rfl rfl (rd_move (v := .rs _ _ _) rfl rfl) ?_ | refine q_rd (wanted_none rfl) rfl rfl (rd_move (v := .os _ _ _ _ _) rfl rfl) ?_ | refine q_rd (wanted_none rfl) rfl rfl (rd_move (v := .c _) rfl rfl) ?_ | refine q_rd (wanted_none rfl) rfl rfl (rd_move (v := .pv _) rfl rfl) ?_ | refine q_rd (wanted_none rfl) rfl rfl (rd_move (v := .top) rfl rfl) ?_
          first | refine q_rd (wanted_none rfl) rfl rfl (rd_lenR rfl rfl Tryd.underlying75) ?_ | refine q_rd (wanted_none rfl) rfl rfl (rd_lenO rfl rfl Tryd.underlying75) ?_ | refine q_rd (wanted_none rfl) rfl rfl (rd_lenN rfl rfl Tryd.underlying75) ?_
          refine q_rd (wanted_none rfl) rfl rfl (rd_move (v := .c _) rfl rfl) ?_
          refine q_rd (wanted_none rfl) rfl rfl (rd_add rfl rfl rfl (wrap_id (k := .i64) (by show _ ∧ _; (first | omega | decide | (dsimp only at *; omega))))) ?_
          first | refine q_rd (wanted_none rfl) rfl rfl (rd_iaddrR rfl rfl rfl Tryd.underlying75 sz3 (show _ = (((l.length + i) : Nat) : Int) by first | omega | (simp only [List.length_append, List.length_cons, List.length_nil]; omega)) (by (first | omega | decide | (dsimp only at *; omega))) (by decide)) ?_ | refine q_rd (wanted_none rfl) rfl rfl (rd_iaddrO1 rfl rfl rfl Tryd.underlying75 sz3 (show _ = (((l.length + i) : Nat) : Int) by first | omega | (simp only [List.length_append, List.length_cons, List.length_nil]; omega)) (by (first | omega | decide | (dsimp only at *; omega)))) ?_ | refine q_rd (wanted_none rfl) rfl rfl (rd_iaddrO rfl rfl rfl Tryd.underlying75 sz3 (show _ = (((l.length + i) : Nat) : Int) by first | omega | (simp only [List.length_append, List.length_cons, List.length_nil]; omega)) (by (first | omega | decide | (dsimp only at *; omega)))) ?_
          refine q_rd (wanted_none rfl) rfl rfl (rd_loadR (v := .c (.int .i64 (-91 - (i : Int)))) rfl rfl Tryd.underlying3 ag3 (by decide) (by rw [if_pos (by omega)]; simp only [valI]; rw [← marksI_get i (by omega)]; simp [List.getD, List.getElem?_append_right])) ?_
          refine q_rd (wanted_none rfl) rfl rfl (rd_move (v := .c _) rfl rfl) ?_
          refine q_rd (wanted_none rfl) rfl rfl (rd_sub rfl rfl rfl (wrap_id (k := .i64) (by show _ ∧ _; (first | omega | decide | (dsimp only at *; omega))))) ?_
          refine q_rd (wanted_none rfl) rfl rfl (rd_neI rfl rfl rfl) ?_
          refine seq_nil ?_
          refine then_norm ?_
          first | refine code_condSD rfl rfl (fun h113 => ?_) (fun h113 => ?_) | refine code_condS rfl rfl (fun h113 => ?_) (fun h113 => ?_)
          · refine code_seq ?_
            refine code_region ?_
            refine q_rd (wanted_none rfl) rfl rfl (rd_assign (v := .c _) rfl rfl) ?_
            refine seq_nil ?_
            refine then_norm ?_
            refine code_ret ?_
            refine block_ret ?_
            refine then_ret ?_
            refine then_ret ?_
            refine block_ret ?_
            refine then_ret ?_
            refine end_val (.inl rfl) (res_1 rfl (arv_tmp rfl)) ?_
            exfalso
            first | omega | (simp_all; done)
          · refine code_skip ?_
            refine block_norm ?_
            refine then_norm ?_
            refine code_region ?_
            refine q_rd (wanted_none rfl) rfl rfl (rd_move (v := .c _) rfl rfl) ?_
            refine q_rd (wanted_none rfl) rfl rfl (rd_add rfl rfl rfl (wrap_id (k := .i64) (by show _ ∧ _; (first | omega | decide | (dsimp only at *; omega))))) ?_
            refine q_rd (wanted_none rfl) rfl rfl (rd_assign (v := .c _) rfl rfl) ?_
            refine seq_nil ?_
            refine then_norm ?_
            refine ⟨i + 1, ?_, ?_, by first | exact .refl | exact .nest .refl rfl rfl | exact .nest (.nest .refl rfl rfl) rfl rfl | exact .nest (.nest (.nest .refl rfl rfl) rfl rfl) rfl rfl, rfl, ?_, by exact Nat.le_of_ble_eq_true rfl, ?_⟩
            · show i + 1 ≤ 4; omega
            · show 4 - (i + 1) < 4 - i; omega
            · (repeat (first | exact EntE.nil | refine EntE.cons (CEnt.refl _) ?_ | refine EntE.cons (CEnt.int (by omega)) ?_))
            · (repeat (first | exact HEnt.nil | refine HEnt.same ?_ | refine HEnt.blk rfl (fun j hj => by rcases j with _|_|_|_|_|_|_|_|j <;> first | exact CEnt.refl _ | exact CEnt.int (by omega) | omega) ?_))
        · refine code_exit ?_
          refine then_exit ?_
          refine then_exit ?_
          refine block_exit rfl ?_
          refine then_norm ?_
          refine code_seq ?_
          refine code_region ?_
          refine q_rd (wanted_none rfl) rfl rfl (rd_assign (v := .c _) rfl rfl) ?_
          refine seq_nil ?_
          refine then_norm ?_
          refine code_ret ?_
          refine end_val (.inl rfl) (res_1 rfl (arv_tmp rfl)) ?_
          exact CEnt.refl _
theorem keptI_ac {gs : List Nat} (l : List Int) : ACp gs Tryd.prog 56 [markIC l, isC l] (.c (.bool true)) := fun al w St F0 vals he hs hv => by
  obtain ⟨c, hc⟩ := hv 0
  obtain ⟨g, h1, h2, h3, h4, h5⟩ := id hc
  refine keptI_cap l c h3 h4 al w St F0 vals he hs fun i => ?_
  rcases i with _ | i
  · exact hc
  · exact hv (i + 1)
end Am
end Go.Proofs.YtghgbhekjgincaaDoor
