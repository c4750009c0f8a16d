
/- The abstract walk: things of several blocks, as one: opened and closed. -/
import Derived.Test.YtoliiompofonlaaDoorAmB
namespace Go.Proofs.YtoliiompofonlaaDoor
set_option linter.unusedVariables false
open Go.RowKit
namespace Am
/-- blocks with a footprint -/
structure Foot (al : List Addr) (St : Nat → Prop) (w : World) (F : Nat → Prop) (E : List (Option Nat × Res)) (fp : Nat → Nat → Prop) : Prop where
  rep : ∀ (i : Nat) (g : Option Nat) (r : Res), E[i]? = some (g, r) → r.rep al St w (fp i) g
  dis : ∀ i j b, fp i b → fp j b → i = j
  out : ∀ i, E.length ≤ i → ∀ b, ¬ fp i b
  all : ∀ b, F b ↔ ∃ i, fp i b
/-- a thing whose blocks are E x, for some x; the first of them is its own -/
def packOP {γ : Type} (gd : γ → Nat) (E : γ → List (Option Nat × Res)) : OP where
  p al St w g F := ∃ x, gd x = g ∧ ∃ fp, Foot al St w F (E x) fp
  st := fun he hs hF ⟨x, hx, fp, h⟩ => ⟨x, hx, fp, fun i g r hi => Res.rep_evo he hs (fun b hb => hF b ((h.all b).2 ⟨i, hb⟩)) (h.rep i g r hi), h.dis, h.out, h.all⟩
def objE {γ : Type} (g : Nat) (gd : γ → Nat) (E : γ → List (Option Nat × Res)) : Option Nat × Res := (some g, .obj (packOP gd E))

theorem HRel.pack {al : List Addr} {St : Nat → Prop} {w : World} {base : Nat} {F0 : Nat → Prop} {γ : Type} {gd : γ → Nat} {E : γ → List (Option Nat × Res)} (x : γ) {B : List (Option Nat × Res)} (h : HRel al St w base F0 (E x ++ B)) : HRel al St w base F0 (objE (gd x) gd E :: B) := by
  obtain ⟨fp, hp⟩ := h
  refine ⟨fun j b => match j with | 0 => ∃ i, i < (E x).length ∧ fp i b | j + 1 => fp ((E x).length + j) b, fun j g r hj => ?_, fun i j b hi hj => ?_, fun i b hi => ?_, fun i hi b hb => ?_⟩
  · cases j with
    | zero =>
      simp only [objE, List.getElem?_cons_zero, Option.some.injEq, Prod.mk.injEq] at hj
      obtain ⟨rfl, rfl⟩ := hj
      refine ⟨x, rfl, fun i b => i < (E x).length ∧ fp i b, fun i g r hi => ?_, fun i j b hi hj => hp.dis i j b hi.2 hj.2, fun i hi b hb => by omega, fun b => Iff.rfl⟩
      have hlt := (List.getElem?_eq_some_iff.1 hi).1
      have e : (fun b => i < (E x).length ∧ fp i b) = fp i := funext fun b => propext ⟨fun h => h.2, fun h => ⟨hlt, h⟩⟩
      show r.rep al St w (fun b => i < (E x).length ∧ fp i b) g
      rw [e]
      exact hp.rep i g r (by rw [List.getElem?_append_left hlt]; exact hi)
    | succ j =>
      simp only [List.getElem?_cons_succ] at hj
      exact hp.rep _ g r (by rw [List.getElem?_append_right (by omega), Nat.add_sub_cancel_left]; exact hj)
  · cases i with
    | zero =>
      cases j with
      | zero => rfl
      | succ j => obtain ⟨k, hk, hf⟩ := hi; have := hp.dis _ _ b hf hj; omega
    | succ i =>
      cases j with
      | zero => obtain ⟨k, hk, hf⟩ := hj; have := hp.dis _ _ b hf hi; omega
      | succ j => have := hp.dis _ _ b hi hj; omega
  · cases i with
    | zero => obtain ⟨k, hk, hf⟩ := hi; exact hp.own _ b hf
    | succ i => exact hp.own _ b hi
  · cases i with
    | zero => simp at hi
    | succ i => exact hp.out _ (by simp at hi ⊢; omega) b hb
/-- the thing at place i is opened: its first block stays there, the others come behind all -/
theorem HRel.unpack {al : List Addr} {St : Nat → Prop} {w : World} {base : Nat} {F0 : Nat → Prop} {γ : Type} {gd : γ → Nat} {e0 : γ → Option Nat × Res} {tl : γ → List (Option Nat × Res)} {H : List (Option Nat × Res)} {i g : Nat} (hH : H[i]? = some (objE g gd fun x => e0 x :: tl x)) (h : HRel al St w base F0 H) :
    ∃ x, gd x = g ∧ HRel al St w base F0 (H.set i (e0 x) ++ tl x) := by
  obtain ⟨fp, hp⟩ := h
  have hlt := (List.getElem?_eq_some_iff.1 hH).1
  obtain ⟨x, hx, fe, he⟩ := hp.rep i _ _ hH
  refine ⟨x, hx, fun j b => if j < H.length then (if j = i then fe 0 b else fp j b) else fe (j - H.length + 1) b, fun j q r hj => ?_, fun j k b hj hk => ?_, fun j b hj => ?_, fun j hj b hb => ?_⟩
  · by_cases h1 : j < H.length
    · rw [List.getElem?_append_left (by simpa using h1)] at hj
      by_cases h2 : j = i
      · subst h2
        simp [h1] at hj
        simp only [h1, if_true]
        exact he.rep 0 q r (by simp [hj])
      · rw [List.getElem?_set_ne (Ne.symm h2)] at hj
        simp only [h1, h2, if_true, if_false]
        exact hp.rep j q r hj
    · rw [List.getElem?_append_right (by simp; omega)] at hj
      simp only [h1, if_false]
      refine he.rep (j - H.length + 1) q r ?_
      simpa using hj
  · have inF : ∀ q b, fe q b → fp i b := fun q b hq => (he.all b).2 ⟨q, hq⟩
    by_cases h1 : j < H.length <;> by_cases h2 : k < H.length <;> simp only [h1, h2, if_true, if_false] at hj hk
    · by_cases h3 : j = i <;> by_cases h4 : k = i <;> simp only [h3, h4, if_true, if_false] at hj hk
      · omega
      · exact absurd (hp.dis _ _ b (inF _ _ hj) hk).symm h4
      · exact absurd (hp.dis _ _ b hj (inF _ _ hk)) h3
      · exact hp.dis _ _ b hj hk
    · by_cases h3 : j = i <;> simp only [h3, if_true, if_false] at hj
      · have := he.dis _ _ b hj hk; omega
      · exact absurd (hp.dis _ _ b hj (inF _ _ hk)) h3
    · by_cases h4 : k = i <;> simp only [h4, if_true, if_false] at hk
      · have := he.dis _ _ b hj hk; omega
      · exact absurd (hp.dis _ _ b hk (inF _ _ hj)) h4
    · have := he.dis _ _ b hj hk; omega
  · have inF : ∀ q b, fe q b → fp i b := fun q b hq => (he.all b).2 ⟨q, hq⟩
    by_cases h1 : j < H.length <;> simp only [h1, if_true, if_false] at hj
    · by_cases h3 : j = i <;> simp only [h3, if_true, if_false] at hj
      · exact hp.own i b (inF _ _ hj)
      · exact hp.own j b hj
    · exact hp.own i b (inF _ _ hj)
  · have h1 : ¬ j < H.length := by simp at hj; omega
    simp only [h1, if_false] at hb
    exact he.out _ (by simp at hj ⊢; omega) b hb
theorem map_erase {α β : Type} (f : α → β) : ∀ (l : List α) (i : Nat), (l.eraseIdx i).map f = (l.map f).eraseIdx i
  | [], _ => rfl
  | _ :: _, 0 => rfl
  | a :: l, i + 1 => congrArg (f a :: ·) (map_erase f l i)
/-- one of the blocks is forgotten -/
theorem HRel.erase {al : List Addr} {St : Nat → Prop} {w : World} {base : Nat} {F0 : Nat → Prop} {H : List (Option Nat × Res)} (h : HRel al St w base F0 H) (i : Nat) : HRel al St w base F0 (H.eraseIdx i) := by
  refine h.pick ((List.range H.length).eraseIdx i) (List.Nodup.sublist (List.eraseIdx_sublist _ _) (range_nodup _)) ?_
  show List.map _ _ = _
  rw [map_erase]
  exact congrArg (fun l => List.eraseIdx l i) ((pickL_range H H.length (Nat.le_refl _)).trans (List.take_length))

section
variable {P : Program} {G : Gh} {ops : Array Oper} {s : AS} {K : AS → Prop} {c : Code} {R : Exit → AS → Prop} {γ : Type} {gd : γ → Nat} {e0 : γ → Option Nat × Res} {tl : γ → List (Option Nat × Res)}
theorem EntS.hrel {H' : List (Option Nat × Res)} (h : ∀ {al St w base F0}, HRel al St w base F0 s.H → HRel al St w base F0 H') : EntS G s ⟨s.env, s.b, H'⟩ := fun St _ _ hr =>
  ⟨St, fun _ h => h, hr.df, hr.sz, hr.env, hr.un, hr.s1, hr.s2, hr.s3, h hr.hp, hr.sn, hr.sg⟩
/-- all blocks are a thing's -/
theorem pack_ent {E : γ → List (Option Nat × Res)} (x : γ) {B : List (Option Nat × Res)} (l : List Nat) (hl : l.Nodup) (hH : pickL s.H l = E x ++ B) : EntS G s ⟨s.env, s.b, objE (gd x) gd E :: B⟩ := EntS.hrel fun h => (h.pick l hl hH).pack x
theorem packAll_ent {E : γ → List (Option Nat × Res)} (x : γ) (hH : s.H = E x) : EntS G s ⟨s.env, s.b, [objE (gd x) gd E]⟩ := EntS.hrel fun h => HRel.pack x (by rw [List.append_nil, ← hH]; exact h)
theorem erase_ent (i : Nat) : EntS G s ⟨s.env, s.b, s.H.eraseIdx i⟩ := EntS.hrel fun h => h.erase i
theorem pick_ent {H' : List (Option Nat × Res)} (l : List Nat) (hl : l.Nodup) (hH : pickL s.H l = H') : EntS G s ⟨s.env, s.b, H'⟩ := EntS.hrel fun h => h.pick l hl hH
theorem unpackRelSt {i g : Nat} (hH : s.H[i]? = some (objE g gd fun x => e0 x :: tl x)) {St : Nat → Prop} {a : Act} {w : World} (hr : RelSt G St s a w) : ∃ x, gd x = g ∧ RelSt G St ⟨s.env, s.b, s.H.set i (e0 x) ++ tl x⟩ a w := by
  obtain ⟨x, hx, h2⟩ := hr.hp.unpack hH
  exact ⟨x, hx, hr.df, hr.sz, hr.env, hr.un, hr.s1, hr.s2, hr.s3, h2, hr.sn, hr.sg⟩
theorem unpackRel {i g : Nat} (hH : s.H[i]? = some (objE g gd fun x => e0 x :: tl x)) {a : Act} {w : World} (h : Rel G s a w) : ∃ x, gd x = g ∧ Rel G ⟨s.env, s.b, s.H.set i (e0 x) ++ tl x⟩ a w := by
  obtain ⟨St, hr⟩ := h
  obtain ⟨x, hx, h2⟩ := unpackRelSt hH hr
  exact ⟨x, hx, St, h2⟩
theorem z_unpack (i : Nat) {g : Nat} {tr : OrdO} (hH : s.H[i]? = some (objE g gd fun x => e0 x :: tl x)) (h : ∀ x, gd x = g → AZ P G ops tr ⟨s.env, s.b, s.H.set i (e0 x) ++ tl x⟩ K) : AZ P G ops tr s K := fun St a w hr Q hQ => by
  obtain ⟨x, hx, h2⟩ := unpackRelSt hH hr
  exact h x hx St a w h2 Q hQ
theorem code_unpack (i : Nat) {g : Nat} (hH : s.H[i]? = some (objE g gd fun x => e0 x :: tl x)) (h : ∀ x, gd x = g → ACode P G c ⟨s.env, s.b, s.H.set i (e0 x) ++ tl x⟩ R) : ACode P G c s R := fun a w hr Q hQ => by
  obtain ⟨x, hx, h2⟩ := unpackRel hH hr
  exact h x hx a w h2 Q hQ
theorem seq_unpack (i : Nat) {g : Nat} {r : List Oper} (hH : s.H[i]? = some (objE g gd fun x => e0 x :: tl x)) (h : ∀ x, gd x = g → ASeq P G ops r ⟨s.env, s.b, s.H.set i (e0 x) ++ tl x⟩ K) : ASeq P G ops r s K := fun a w hr Q hQ => by
  obtain ⟨x, hx, h2⟩ := unpackRel hH hr
  exact h x hx a w h2 Q hQ
end
end Am
end Go.Proofs.YtoliiompofonlaaDoor
