
/- From a row's list of sentinels ('laid') to what the walks ask: each variable's pointer, no two the same. -/
import Derived.Test.YtoliiompofonlaaDoorRows
import Derived.Test.YtoliiompofonlaaDoorBase
import Derived.Test.YtoliiompofonlaaDoorErr
import Derived.LaidLaws
import Derived.MakeChecks
namespace Go.Proofs.YtoliiompofonlaaDoor
set_option linter.unusedVariables false
open Go.RowKit Go.ChangeShapes

theorem addr_ext {a b : Addr} (h1 : a.block = b.block) (h2 : a.off = b.off) (h3 : a.spot = none) (h4 : b.spot = none) : a = b := by
  cases a; cases b; simp_all

def isErr (x : String × DataW Unit) : Bool := match x.2 with
  | .iface nm (.ptr (.agg [.lit (.string _)])) => nm == "*errors.errorString"
  | _ => false
theorem isErr_out {x : String × DataW Unit} (h : isErr x = true) : ∃ text, x.2 = .iface "*errors.errorString" (.ptr (.agg [.lit (.string text)])) := by
  obtain ⟨n, d⟩ := x
  unfold isErr at h
  dsimp only at h ⊢
  split at h
  · exact ⟨_, by rw [eq_of_beq h]⟩
  · cases h

theorem laid_list {P : Program} {W : World} {nm : String} {ti tp te ts : TypeId} {ms : Array (String × TypeId)} {f : Field}
    (hi : P.underlying ti = some (.interface ms)) (hrow : ∀ u, P.typeName? 3 u = some nm → u = tp)
    (hp : P.underlying tp = some (.pointer te)) (he : P.underlying te = some (.struct #[f])) (hft : f.type = ts) (hfo : f.offset = 0) (hs : P.underlying ts = some .string) (hc : P.cellsOf te = 1) (hcs : P.cellsOf ts = 1) :
    ∀ (L : List (String × DataW Unit)) (ps : List MemPlace), DataW.LaidVars P W L ps →
      (∀ b off, MemPlace.cell b off ∈ ps → (∃ c t, W.heap[b]? = some (.cells c t (0, 0))) ∧ ∀ u v, W.cell? ⟨b, off, none⟩ = some (.iface u v) → Value.okWide P W .any 0 u v) → ps.Nodup →
      (∀ x ∈ L, isErr x = true → (∃ text, x.2 = .iface nm (.ptr (.agg [.lit (.string text)]))) ∧ ∀ g, P.globalNamed x.1 = some g → (P.globals[g]?).map (·.type) = some ti) →
      ∃ al : List Addr, al.length = (L.filter isErr).length ∧ al.Nodup ∧ (∀ a ∈ al, a.spot = none ∧ MemPlace.cell a.block a.off ∈ ps) ∧
        ∀ (i : Nat) (x : String × DataW Unit) (a : Addr), (L.filter isErr)[i]? = some x → al[i]? = some a → ∃ g, P.globalNamed x.1 = some g ∧ W.cell? ⟨g, 0, none⟩ = some (.iface tp (.pointer (some a)))
  | [], ps, _, _, _, _ => ⟨[], rfl, List.nodup_nil, by simp, by simp⟩
  | (n, d) :: r, ps, hv, hrows, hnd, hL => by
    obtain ⟨g, t, cs, fuel, p, q, hg, ht, hvar, hd, hrest, rfl⟩ := hv
    have hnq : q.Nodup := List.Nodup.sublist (List.sublist_append_right _ _) hnd
    obtain ⟨al, h1, h2, h3, h4⟩ := laid_list hi hrow hp he hft hfo hs hc hcs r q hrest (fun b off hm => hrows b off (List.mem_append_right _ hm)) hnq (fun x hx => hL x (List.mem_cons_of_mem _ hx))
    by_cases hE : isErr (n, d) = true
    case neg =>
      have hE : isErr (n, d) = false := by simpa using hE
      rw [List.filter_cons_of_neg (by simp [hE])]
      exact ⟨al, h1, h2, fun a ha => ⟨(h3 a ha).1, List.mem_append_right _ (h3 a ha).2⟩, h4⟩
    obtain ⟨⟨text, hx⟩, hty⟩ := hL (n, d) (List.mem_cons_self ..) hE
    rw [List.filter_cons_of_pos hE]
    simp only at hx
    subst hx
    obtain rfl := Option.some.inj ((hty g hg).symm.trans ht)
    obtain ⟨l⟩ := cs
    have hcell0 : ∀ v, l = [v] → W.cell? ⟨g, 0, none⟩ = some v := fun v e => by
      subst e
      simpa using World.var?_cell hg hvar 0
    obtain ⟨a, s, rfl, ha, _, _, rfl⟩ := errorString_of_trod hi hrow hp he hft hfo hs hc hcs hd (fun u v e => by
      simp only at e
      subst e
      exact (hrows g 0 (by simp [MemPlace.row])).2 u v (hcell0 _ rfl))
    have hsp : a.spot = none := World.cell?_spot ha
    have hpl : MemPlace.cell a.block a.off ∈ MemPlace.row a 1 := by simp [MemPlace.row]
    refine ⟨a :: al, by simp [h1], List.nodup_cons.2 ⟨fun hm => ?_, h2⟩, ?_, ?_⟩
    · have hq := (h3 a hm).2
      have := (List.nodup_append.1 hnd).2.2 (MemPlace.cell a.block a.off) (List.mem_append_right _ hpl) _ hq
      exact this rfl
    · intro b hb
      rcases List.mem_cons.1 hb with rfl | hb
      · exact ⟨hsp, List.mem_append_left _ (List.mem_append_right _ hpl)⟩
      · exact ⟨(h3 b hb).1, List.mem_append_right _ (h3 b hb).2⟩
    · intro i x b hi' hb
      match i, hi', hb with
      | 0, hi', hb =>
        simp only [List.getElem?_cons_zero, Option.some.injEq] at hi' hb
        subst hi'
        subst hb
        exact ⟨g, hg, hcell0 _ rfl⟩
      | i + 1, hi', hb => exact h4 i x b (by simpa using hi') (by simpa using hb)

theorem starRow (u : TypeId) (h : Tryd.prog.typeName? 3 u = some "*errors.errorString") : u = 235 := by
  have e : "*errors.errorString" = "*" ++ "errors.errorString" := by decide +kernel
  exact typeName_ptr_named (nm := "errors.errorString") (by rw [← e]; kernel_rfl) (by kernel_rfl) (by decide) u (by rw [← e]; exact h)
theorem cellsErr : Tryd.prog.cellsOf 262 = 1 := by kernel_rfl
theorem cellsStr : Tryd.prog.cellsOf 9 = 1 := by kernel_rfl

/-- what a row's list of sentinels gives -/
theorem sent_of_laid {W : World} {L : List (String × DataW Unit)} {g0 : List Nat} (h : laidMetH Tryd.prog L W) (h1 : (L.all fun x => x.2.handleName?.isNone) = true)
    (h3 : ((L.filter isErr).map fun x => Tryd.prog.globalNamed x.1) = (errG g0).map some) (h4 : ((errG g0).map fun g => (Tryd.prog.globals[g]?).map (·.type)) = List.replicate (errG g0).length (some 32))
    (ht : tabA ∈ lst g0 → tabB ∈ lst g0 → Lib.Utf8Tabs tabA tabB W) (hAB : ((lst g0).contains tabA) = ((lst g0).contains tabB)) : ∃ al, SentL W g0 al := by
  rw [MakeChecks.laidMetH_plain _ _ _ h1] at h
  obtain ⟨ps, hv, hnd, hrows⟩ := h
  have hlen : (L.filter isErr).length = (errG g0).length := by simpa using congrArg List.length h3
  have hgl : ∀ (i : Nat) (x : String × DataW Unit), (L.filter isErr)[i]? = some x → ∃ g, (errG g0)[i]? = some g ∧ Tryd.prog.globalNamed x.1 = some g := by
    intro i x hx
    have := congrArg (fun l => l[i]?) h3
    simp only [List.getElem?_map, hx, Option.map_some] at this
    obtain ⟨g, hg, e⟩ := Option.map_eq_some_iff.1 this.symm
    exact ⟨g, hg, e.symm⟩
  obtain ⟨al, l1, l2, l3, l4⟩ := laid_list Tryd.underlying32 starRow Tryd.underlying235 Tryd.underlying262 rfl rfl Tryd.underlying9 cellsErr cellsStr L ps hv hrows hnd
    (fun x hx hE => ⟨isErr_out hE, fun g hg => by
      obtain ⟨i, hi⟩ := List.mem_iff_getElem?.1 (List.mem_filter.2 ⟨hx, hE⟩)
      obtain ⟨g', hg', e⟩ := hgl i x hi
      obtain rfl := Option.some.inj (e.symm.trans hg)
      have := congrArg (fun l => l[i]?) h4
      simp only [List.getElem?_map, hg', Option.map_some] at this
      have hlt : i < (errG g0).length := (List.getElem?_eq_some_iff.1 hg').1
      rw [List.getElem?_replicate, if_pos hlt] at this
      exact Option.some.inj this⟩)
  have hvar : ∀ i g, (errG g0)[i]? = some g → W.cell? ⟨g, 0, none⟩ = some (ev al (i + 1)) := by
    intro i g hg
    have hlt : i < (errG g0).length := (List.getElem?_eq_some_iff.1 hg).1
    obtain ⟨x, hx⟩ : ∃ x, (L.filter isErr)[i]? = some x := ⟨(L.filter isErr)[i], List.getElem?_eq_getElem (by omega)⟩
    obtain ⟨a, ha⟩ : ∃ a, al[i]? = some a := ⟨al[i], List.getElem?_eq_getElem (by omega)⟩
    obtain ⟨g', hg', e⟩ := hgl i x hx
    obtain rfl := Option.some.inj (hg.symm.trans hg')
    obtain ⟨g2, e2, hc⟩ := l4 i x a hx ha
    obtain rfl := Option.some.inj (e.symm.trans e2)
    rw [hc]
    simp [ev, ha]
  refine ⟨al, by omega, fun i j g g' hi _ hj _ e => (List.getElem?_inj (by have := (List.getElem?_eq_some_iff.1 hi).1; omega) l2).1 e, fun i g hi _ => hvar i g hi, fun a ha => (hrows a.block a.off (l3 a ha).2).1, ht, fun g hg => ?_⟩
  by_cases hT : (Nat.beq g tabA || Nat.beq g tabB) = true
  · have hc : tabA ∈ lst g0 ∧ tabB ∈ lst g0 := by
      rcases Bool.or_eq_true_iff.1 hT with e | e
      · have := Nat.eq_of_beq_eq_true e
        subst this
        have h5 : (lst g0).contains tabA = true := List.contains_iff_mem.2 hg
        exact ⟨hg, List.contains_iff_mem.1 (hAB ▸ h5)⟩
      · have := Nat.eq_of_beq_eq_true e
        subst this
        have h5 : (lst g0).contains tabB = true := List.contains_iff_mem.2 hg
        exact ⟨List.contains_iff_mem.1 (hAB.symm ▸ h5), hg⟩
    have hU := ht hc.1 hc.2
    rcases Bool.or_eq_true_iff.1 hT with e | e
    · have := Nat.eq_of_beq_eq_true e
      subst this
      exact World.block_lt_of_cell? W _ (hU.1 0 (by decide))
    · have := Nat.eq_of_beq_eq_true e
      subst this
      exact World.block_lt_of_cell? W _ (hU.2 0 (by decide)).1
  · have hm : g ∈ errG g0 := List.mem_filter.2 ⟨(lst_mem.1 hg).1, by
      cases hb : (Nat.beq g tabA || Nat.beq g tabB) with
      | true => exact absurd hb hT
      | false => rfl⟩
    obtain ⟨i, hi⟩ := List.mem_iff_getElem?.1 hm
    exact World.block_lt_of_cell? W _ (hvar i g hi)
/-- the same errors at the numbers of the table: pos i says where number i + 1 stands in the row's list -/
theorem sent_part {W : World} {g1 gP : List Nat} {al1 : List Addr} (pos : List Nat) (h : SentL W g1 al1) (hlen : pos.length = (errG gP).length) (hpos : (pos.all fun p => Nat.blt p (errG g1).length) = true)
    (hat : ((List.range pos.length).all fun i => match (errG gP)[i]? with | some g => !(Nat.blt g 1000000000) || ((errG g1)[pos.getD i 0]? == some g && (lst g1).contains g) | none => true) = true)
    (hinj : ((List.range pos.length).all fun i => (List.range pos.length).all fun j => match (errG gP)[i]?, (errG gP)[j]? with | some g, some g' => !(Nat.blt g 1000000000) || !(Nat.blt g' 1000000000) || !(pos.getD i 0 == pos.getD j 0) || i == j | _, _ => true) = true)
    (hsub : ((lst gP).all fun g => (lst g1).contains g) = true) : SentL W gP (pos.map fun p => al1.getD p default) := by
  have hl1 : al1.length = (errG g1).length := h.len
  have hp : ∀ i, i < pos.length → pos.getD i 0 < al1.length := fun i hi => by
    have := List.all_eq_true.1 hpos (pos.getD i 0) (by simp [List.getD, hi])
    rw [hl1]
    exact Nat.le_of_ble_eq_true this
  have hget : ∀ i g, (errG gP)[i]? = some g → g ∈ lst gP → i < pos.length ∧ (errG g1)[pos.getD i 0]? = some g ∧ g ∈ lst g1 := fun i g hi hg => by
    have hlt : i < pos.length := by rw [hlen]; exact (List.getElem?_eq_some_iff.1 hi).1
    have h1 := List.all_eq_true.1 hat i (List.mem_range.2 hlt)
    simp only [hi] at h1
    have h2 : Nat.blt g 1000000000 = true := by have := (lst_mem.1 hg).2; simpa using this
    rw [h2] at h1
    simp only [Bool.not_true, Bool.false_or, Bool.and_eq_true, beq_iff_eq, List.contains_iff_mem] at h1
    exact ⟨hlt, h1⟩
  have hal : ∀ i, i < pos.length → (pos.map fun p => al1.getD p default)[i]? = al1[pos.getD i 0]? := fun i hi => by
    have := hp i hi
    simp [List.getD, hi] at this ⊢
    simp [this]
  refine ⟨by simp [hlen], fun i j g g' hi hg hj hg' e => ?_, fun i g hi hg => ?_, fun a ha => ?_, fun h1 h2 => h.tab ?_ ?_, fun g hg => h.lt g ?_⟩
  · obtain ⟨k1, k2, k3⟩ := hget i g hi hg
    obtain ⟨k4, k5, k6⟩ := hget j g' hj hg'
    rw [hal i k1, hal j k4] at e
    have e2 := h.nd _ _ g g' k2 k3 k5 k6 e
    have h1 := List.all_eq_true.1 (List.all_eq_true.1 hinj i (List.mem_range.2 k1)) j (List.mem_range.2 k4)
    simp only [hi, hj] at h1
    have h2 : Nat.blt g 1000000000 = true := by have := (lst_mem.1 hg).2; simpa using this
    have h3 : Nat.blt g' 1000000000 = true := by have := (lst_mem.1 hg').2; simpa using this
    rw [h2, h3, e2] at h1
    simpa using h1
  · obtain ⟨k1, k2, k3⟩ := hget i g hi hg
    rw [h.var _ g k2 k3]
    simp only [ev, Nat.add_one_ne_zero, if_false, Nat.add_sub_cancel]
    rw [hal i k1]
  · obtain ⟨p, hp1, rfl⟩ := List.mem_map.1 ha
    obtain ⟨i, hi⟩ := List.mem_iff_getElem?.1 hp1
    have hlt := (List.getElem?_eq_some_iff.1 hi).1
    have h1 := hp i hlt
    have e : pos.getD i 0 = p := by simp [List.getD, hi]
    rw [e] at h1
    refine h.row _ ?_
    simp [List.getD, h1]
  · exact List.contains_iff_mem.1 (List.all_eq_true.1 hsub _ h1)
  · exact List.contains_iff_mem.1 (List.all_eq_true.1 hsub _ h2)
  · exact List.contains_iff_mem.1 (List.all_eq_true.1 hsub _ hg)
theorem sent_nil (W : World) : SentL W [] [] := ⟨rfl, fun i j g g' h => by simp [errG] at h, fun i g h => by simp [errG] at h, fun a h => by simp at h, fun h => by simp [lst] at h, fun g h => by simp [lst] at h⟩

/-! ### arguments that come in -/
/-- a slice of bytes that came in -/
theorem bs_of_trod {P : Program} {W : World} {T E : TypeId} {ao : Option Addr} {len cap : Nat} {H : Type} {enc : TypeId × Value → H} {d : DataW H} {ps : List MemPlace}
    (hT : P.underlying T = some (.slice E)) (hE : P.underlying E = some (.int .u8)) (hc : P.cellsOf E = 1)
    (h : DataW.Trod enc P W 0 (fun _ => true) true T (.slice ao len cap) d ps) : ∃ l, Bs W (.slice ao len cap) l := by
  obtain ⟨fuel, hf⟩ := h
  rcases open_ints hT hE hc hf with ⟨hcs, _⟩ | ⟨x, l, c, zs, hcs, _, hl, hm, hz, _, hcell, hwz⟩
  · simp [Value.cells] at hcs
    obtain ⟨rfl, rfl, rfl⟩ := hcs
    exact ⟨[], Bs.nil W⟩
  · simp [Value.cells] at hcs
    obtain ⟨rfl, rfl, rfl⟩ := hcs
    have hz' : zs.length = cap := by simpa using hz
    have hlen : ((zs.take len).map fun z => UInt8.ofNat z.toNat).length = len := by simp; omega
    have key : ∀ i, i < len → W.cell? (x.add i) = some (.int .u8 ((((zs.take len).map fun z => UInt8.ofNat z.toNat).getD i 0).toNat : Nat)) := by
      intro i hi
      rw [hcell i (by omega)]
      have hzi : zs[i]? = some (zs.getD i 0) := by simp [List.getD, show i < zs.length by omega]
      have hwf := hwz (zs.getD i 0) (List.mem_of_getElem? hzi)
      have hb := bounds_u8 hwf
      have e : ((zs.take len).map fun z => UInt8.ofNat z.toNat).getD i 0 = UInt8.ofNat (zs.getD i 0).toNat := by
        simp [List.getD, List.getElem?_take, hi, show i < zs.length by omega]
      rw [e, UInt8.toNat_ofNat']
      congr 2
      omega
    obtain ⟨b, o, sp⟩ := x
    have hm' : cap ≤ 9223372036854775807 := by unfold maxLen at hm; omega
    by_cases h0 : len = 0
    · subst h0
      exact ⟨[], _, cap, rfl, by simp, hm', by simp, fun y hy => by
        cases hy
        exact ⟨fun h => by simp at h, fun i hi => by simp at hi⟩⟩
    · have hsp : sp = none := by
        have := World.cell?_spot (key 0 (by omega))
        simpa [Addr.add] using this
      subst hsp
      refine ⟨(zs.take len).map fun z => UInt8.ofNat z.toNat, ?_⟩
      have := Bs.of_cells (w := W) (b := b) (o := o) (cap := cap) (l := (zs.take len).map fun z => UInt8.ofNat z.toNat) (by omega) hm' (fun i hi => by
        have := key i (by omega)
        rwa [Addr.add_lit] at this)
      rwa [hlen] at this
end Go.Proofs.YtoliiompofonlaaDoor
