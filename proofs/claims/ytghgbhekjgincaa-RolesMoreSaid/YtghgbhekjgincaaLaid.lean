
/- From a row's list of sentinels ('laid') to what the walks ask: each variable's pointer, no two the same. -/
import Derived.Test.YtghgbhekjgincaaRows
import Derived.Test.YtghgbhekjgincaaBase
import Derived.LaidLaws
import Derived.MakeChecks
namespace Go.Proofs.Ytghgbhekjgincaa
set_option linter.unusedVariables false
open Go.RowKit Go.ChangeShapes

theorem addr_ext {a b : Addr} (h1 : a.block = b.block) (h2 : a.off = b.off) (h3 : a.spot = none) (h4 : b.spot = none) : a = b := by
  cases a; cases b; simp_all

def isErr (x : String × DataW Unit) : Bool := match x.2 with
  | .iface nm (.ptr (.agg [.lit (.string _)])) => nm == "*errors.errorString"
  | _ => false
theorem isErr_out {x : String × DataW Unit} (h : isErr x = true) : ∃ text, x.2 = .iface "*errors.errorString" (.ptr (.agg [.lit (.string text)])) := by
  obtain ⟨n, d⟩ := x
  unfold isErr at h
  dsimp only at h ⊢
  split at h
  · exact ⟨_, by rw [eq_of_beq h]⟩
  · cases h

theorem laid_list {P : Program} {W : World} {nm : String} {ti tp te ts : TypeId} {ms : Array (String × TypeId)} {f : Field}
    (hi : P.underlying ti = some (.interface ms)) (hrow : ∀ u, P.typeName? 3 u = some nm → u = tp)
    (hp : P.underlying tp = some (.pointer te)) (he : P.underlying te = some (.struct #[f])) (hft : f.type = ts) (hfo : f.offset = 0) (hs : P.underlying ts = some .string) (hc : P.cellsOf te = 1) (hcs : P.cellsOf ts = 1) :
    ∀ (L : List (String × DataW Unit)) (ps : List MemPlace), DataW.LaidVars P W L ps →
      (∀ b off, MemPlace.cell b off ∈ ps → (∃ c t, W.heap[b]? = some (.cells c t (0, 0))) ∧ ∀ u v, W.cell? ⟨b, off, none⟩ = some (.iface u v) → Value.okWide P W .any 0 u v) → ps.Nodup →
      (∀ x ∈ L, isErr x = true → (∃ text, x.2 = .iface nm (.ptr (.agg [.lit (.string text)]))) ∧ ∀ g, P.globalNamed x.1 = some g → (P.globals[g]?).map (·.type) = some ti) →
      ∃ al : List Addr, al.length = (L.filter isErr).length ∧ al.Nodup ∧ (∀ a ∈ al, a.spot = none ∧ MemPlace.cell a.block a.off ∈ ps) ∧
        ∀ (i : Nat) (x : String × DataW Unit) (a : Addr), (L.filter isErr)[i]? = some x → al[i]? = some a → ∃ g, P.globalNamed x.1 = some g ∧ W.cell? ⟨g, 0, none⟩ = some (.iface tp (.pointer (some a)))
  | [], ps, _, _, _, _ => ⟨[], rfl, List.nodup_nil, by simp, by simp⟩
  | (n, d) :: r, ps, hv, hrows, hnd, hL => by
    obtain ⟨g, t, cs, fuel, p, q, hg, ht, hvar, hd, hrest, rfl⟩ := hv
    have hnq : q.Nodup := List.Nodup.sublist (List.sublist_append_right _ _) hnd
    obtain ⟨al, h1, h2, h3, h4⟩ := laid_list hi hrow hp he hft hfo hs hc hcs r q hrest (fun b off hm => hrows b off (List.mem_append_right _ hm)) hnq (fun x hx => hL x (List.mem_cons_of_mem _ hx))
    by_cases hE : isErr (n, d) = true
    case neg =>
      have hE : isErr (n, d) = false := by simpa using hE
      rw [List.filter_cons_of_neg (by simp [hE])]
      exact ⟨al, h1, h2, fun a ha => ⟨(h3 a ha).1, List.mem_append_right _ (h3 a ha).2⟩, h4⟩
    obtain ⟨⟨text, hx⟩, hty⟩ := hL (n, d) (List.mem_cons_self ..) hE
    rw [List.filter_cons_of_pos hE]
    simp only at hx
    subst hx
    obtain rfl := Option.some.inj ((hty g hg).symm.trans ht)
    obtain ⟨l⟩ := cs
    have hcell0 : ∀ v, l = [v] → W.cell? ⟨g, 0, none⟩ = some v := fun v e => by
      subst e
      simpa using World.var?_cell hg hvar 0
    obtain ⟨a, s, rfl, ha, _, _, rfl⟩ := errorString_of_trod hi hrow hp he hft hfo hs hc hcs hd (fun u v e => by
      simp only at e
      subst e
      exact (hrows g 0 (by simp [MemPlace.row])).2 u v (hcell0 _ rfl))
    have hsp : a.spot = none := World.cell?_spot ha
    have hpl : MemPlace.cell a.block a.off ∈ MemPlace.row a 1 := by simp [MemPlace.row]
    refine ⟨a :: al, by simp [h1], List.nodup_cons.2 ⟨fun hm => ?_, h2⟩, ?_, ?_⟩
    · have hq := (h3 a hm).2
      have := (List.nodup_append.1 hnd).2.2 (MemPlace.cell a.block a.off) (List.mem_append_right _ hpl) _ hq
      exact this rfl
    · intro b hb
      rcases List.mem_cons.1 hb with rfl | hb
      · exact ⟨hsp, List.mem_append_left _ (List.mem_append_right _ hpl)⟩
      · exact ⟨(h3 b hb).1, List.mem_append_right _ (h3 b hb).2⟩
    · intro i x b hi' hb
      match i, hi', hb with
      | 0, hi', hb =>
        simp only [List.getElem?_cons_zero, Option.some.injEq] at hi' hb
        subst hi'
        subst hb
        exact ⟨g, hg, hcell0 _ rfl⟩
      | i + 1, hi', hb => exact h4 i x b (by simpa using hi') (by simpa using hb)

theorem sent_nil (W : World) : SentL W [] [] := ⟨rfl, List.nodup_nil, fun i g h => by simp [errG] at h, fun a h => by simp at h, fun h => by simp at h, fun g h => by simp at h⟩

/-! ### arguments that come in -/
/-- a slice of bytes that came in -/
theorem bs_of_trod {P : Program} {W : World} {T E : TypeId} {ao : Option Addr} {len cap : Nat} {H : Type} {enc : TypeId × Value → H} {d : DataW H} {ps : List MemPlace}
    (hT : P.underlying T = some (.slice E)) (hE : P.underlying E = some (.int .u8)) (hc : P.cellsOf E = 1)
    (h : DataW.Trod enc P W 0 (fun _ => true) true T (.slice ao len cap) d ps) : ∃ l, Bs W (.slice ao len cap) l := by
  obtain ⟨fuel, hf⟩ := h
  rcases open_ints hT hE hc hf with ⟨hcs, _⟩ | ⟨x, l, c, zs, hcs, _, hl, hm, hz, _, hcell, hwz⟩
  · simp [Value.cells] at hcs
    obtain ⟨rfl, rfl, rfl⟩ := hcs
    exact ⟨[], Bs.nil W⟩
  · simp [Value.cells] at hcs
    obtain ⟨rfl, rfl, rfl⟩ := hcs
    have hz' : zs.length = cap := by simpa using hz
    have hlen : ((zs.take len).map fun z => UInt8.ofNat z.toNat).length = len := by simp; omega
    have key : ∀ i, i < len → W.cell? (x.add i) = some (.int .u8 ((((zs.take len).map fun z => UInt8.ofNat z.toNat).getD i 0).toNat : Nat)) := by
      intro i hi
      rw [hcell i (by omega)]
      have hzi : zs[i]? = some (zs.getD i 0) := by simp [List.getD, show i < zs.length by omega]
      have hwf := hwz (zs.getD i 0) (List.mem_of_getElem? hzi)
      have hb := bounds_u8 hwf
      have e : ((zs.take len).map fun z => UInt8.ofNat z.toNat).getD i 0 = UInt8.ofNat (zs.getD i 0).toNat := by
        simp [List.getD, List.getElem?_take, hi, show i < zs.length by omega]
      rw [e, UInt8.toNat_ofNat']
      congr 2
      omega
    obtain ⟨b, o, sp⟩ := x
    have hm' : cap ≤ 9223372036854775807 := by unfold maxLen at hm; omega
    by_cases h0 : len = 0
    · subst h0
      exact ⟨[], _, cap, rfl, by simp, hm', by simp, fun y hy => by
        cases hy
        exact ⟨fun h => by simp at h, fun i hi => by simp at hi⟩⟩
    · have hsp : sp = none := by
        have := World.cell?_spot (key 0 (by omega))
        simpa [Addr.add] using this
      subst hsp
      refine ⟨(zs.take len).map fun z => UInt8.ofNat z.toNat, ?_⟩
      have := Bs.of_cells (w := W) (b := b) (o := o) (cap := cap) (l := (zs.take len).map fun z => UInt8.ofNat z.toNat) (by omega) hm' (fun i hi => by
        have := key i (by omega)
        rwa [Addr.add_lit] at this)
      rwa [hlen] at this
end Go.Proofs.Ytghgbhekjgincaa
