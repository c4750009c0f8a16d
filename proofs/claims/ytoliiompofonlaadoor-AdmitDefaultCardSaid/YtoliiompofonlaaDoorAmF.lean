
/- The abstract walk: clear; functions that are handed over. -/
import Derived.Test.YtoliiompofonlaaDoorAmE
namespace Go.Proofs.YtoliiompofonlaaDoor
set_option linter.unusedVariables false
open Go.RowKit
namespace Am
section
variable {P : Program} {G : Gh} {ops : Array Oper} {o : Oper} {s : AS} {r : List Oper} {K : AS → Prop} {t u : TypeId} {x y : Operand} {env : List (Nat × CV)} {b0 : Nat → CV} {H : List (Option Nat × Res)}
theorem exec_clear {ats : Array TypeId} (ho : o.op = .call ⟨.builtin .clear, #[x], ats⟩) {a : Act} {v : Value} {w w' : World} (h : (Builtin.clear_ ats o.type #[a.eval x]).run P w = .ok v w') : (execOp a.eval o).run P w = .ok (.value v) w' := by
  simp [execOp, ho, resolve, invoke, builtin, h]
/-- clear(s): what lies ahead of s is as it was -/
theorem m_clear {e : TypeId} {z : Value} {i off n k N M : Nat} {g : Option Nat} {f : Nat → CV} (ho : o.op = .call ⟨.builtin .clear, #[x], #[t]⟩) (hx : (⟨env, b0, H⟩ : AS).eval x = .os i g off n k) (hH : H[i]? = some (g, .blk N f)) (h1 : P.underlying t = some (.slice e)) (h5 : (P.info? e).map (·.size) = some k) (hz : (P.info? e).map (·.zero) = some (some z)) (hzk : z.cells.size = k) (hk : 0 < k) (hz1 : z.cells.all (·.oneCell') = true)
    (hM : M ≤ off) (hMN : M ≤ N) (hg : g = none → M = N) (hd : o.dst = none) (hK : K ⟨env, b0, H.set i (g, .blk M f)⟩) : AMd P G o ⟨env, b0, H⟩ K := fun St a w hr Q => by
  obtain ⟨info, hi, h6⟩ := Option.map_eq_some_iff.1 h5
  obtain ⟨info', hi', hz⟩ := Option.map_eq_some_iff.1 hz
  obtain rfl := Option.some.inj (hi.symm.trans hi')
  have less : ∀ {w'}, RelSt G St ⟨env, b0, H⟩ a w' → ∃ St', (∀ b, St b → St' b) ∧ RelSt G St' ⟨env, b0, H.set i (g, .blk M f)⟩ a w' := fun hr' =>
    blk_ent (G := G) (s := ⟨env, b0, H⟩) i (m := M) (F := f) hH hMN hg (fun j hj => CEnt.refl _) St a _ hr'
  have he := evR hr hx
  have fin : ∀ {w'}, (execOp a.eval o).run P w = .ok (.value (.tuple #[])) w' → KeepS St w w' → (∃ St', (∀ b, St b → St' b) ∧ RelSt G St' ⟨env, b0, H.set i (g, .blk M f)⟩ a w') → o.wp P a w (fun a' w' => KeepS St w w' ∧ ∃ St', (∀ b, St b → St' b) ∧ ∃ s', K s' ∧ RelSt G St' s' a' w') Q := fun {w'} hrun hkeep ⟨St', hs, h⟩ => by
    unfold Oper.wp
    rw [hrun]
    refine ⟨hkeep, St', hs, _, hK, ?_⟩
    rw [hd]
    exact h
  cases g with
  | none =>
    obtain ⟨hn, e0⟩ := he
    refine fin (exec_clear ho ?_) (KeepS.refl _ _) (less hr)
    rw [e0]
    simp [Builtin.clear_, underlying, h1]
  | some b =>
    obtain ⟨cap, e0, h3, h4, cur, ty, zz, hh, hfit⟩ := he
    rcases Nat.eq_zero_or_pos n with hn | hn
    · subst hn
      refine fin (exec_clear ho ?_) (KeepS.refl _ _) (less hr)
      rw [e0]
      simp [Builtin.clear_, underlying, h1]
    · obtain ⟨fp, hp⟩ := id hr.hp
      obtain ⟨h00, cur', ty', hh', hle, hcell⟩ := hp.rep i (some b) _ hH
      rw [hh] at hh'
      cases hh'
      have hlen : (Builtin.zeroCells z.cells n).toList.length = n * k := by simp [Builtin.zeroCells, hzk]
      have hcap : off + n * k ≤ cur.size := by
        have := Nat.mul_le_mul_right k h3
        omega
      have hone : ∀ v ∈ (Builtin.zeroCells z.cells n).toList, v.oneCell' = true := fun v hv => by
        have hv' : v ∈ Builtin.zeroCells z.cells n := by simpa using hv
        obtain ⟨j, hj, e⟩ := Array.mem_iff_getElem.1 hv'
        rw [← e]
        have hlt : j % z.cells.size < z.cells.size := Nat.mod_lt _ (by omega)
        have := Array.all_eq_true.1 hz1 (j % z.cells.size) hlt
        simpa [Builtin.zeroCells, hlt] using this
      have hst := run_storeCells_at P b off ty (Builtin.zeroCells z.cells n).toList 0 cur w hh (by rw [hlen]; omega) hone
      simp only [Nat.add_zero] at hst
      obtain ⟨m, rfl⟩ : ∃ m, n = m + 1 := ⟨n - 1, by omega⟩
      refine fin (w' := w.setRow b (cur.toList.take off ++ (Builtin.zeroCells z.cells (m + 1)).toList ++ cur.toList.drop (off + (Builtin.zeroCells z.cells (m + 1)).toList.length)).toArray) (exec_clear ho ?_) (fun q hq => setRow_other w b q _ (fun e => (hp.own i b ((h00 b).2 rfl)).2.1 (e ▸ hq))) ?_
      · rw [e0]
        simp [Builtin.clear_, underlying, h1, zeroValue, typeInfo, hi, hz, hst]
      · refine ⟨St, fun _ h => h, hr.write hH hh ?_ ?_ fun j hj => ?_⟩
        · simp only [List.size_toArray, List.length_append, List.length_take, List.length_drop, Array.length_toList, hlen]; omega
        · simp only [List.size_toArray, List.length_append, List.length_take, List.length_drop, Array.length_toList, hlen]; omega
        · rw [row_at cur _ off (by rw [hlen]; omega), if_neg (by omega)]
          exact hcell j (by omega)
end
end Am
end Go.Proofs.YtoliiompofonlaaDoor
