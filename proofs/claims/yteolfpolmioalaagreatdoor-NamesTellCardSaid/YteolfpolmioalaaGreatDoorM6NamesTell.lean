/- What the law leans on, part 6: W05h, W06c, P06c, W06d, W06e, W08g, W08h, W08p, P08r, P08c, P08d, P08h, P08i, P09s, ErrN, W08y, AmN, W09s, W09t, W05r, P08k, W08q, W08r, W08s, W08t, W05i, W08s7, W09u, L09t, Open, Open2 -/
import Derived.Test.YteolfpolmioalaaGreatDoorM5NamesTell
import Derived.ChangeArms
import Derived.ChangeOld
import Derived.OpenShut

set_option maxRecDepth 100000
namespace Go.Proofs.YteolfpolmioalaaGreatDoor
set_option linter.unusedVariables false
namespace Am
section
variable {gs : List Nat} [Ok9 gs]
open Go.RowKit

theorem res_at {b : List UInt8} {k : Nat} (hk : k < (runsL b).length) : (resB b).getD k (0, 0) = numM ((runsL b).getD k []) (if k = 0 then 2147483727 else 2147483647) := resL_get _ _ _ hk
theorem res_take {b : List UInt8} {k : Nat} (hk : k < (runsL b).length) : (((resB b).take (k + 1)).map (·.1)) = (((resB b).take k).map (·.1)) ++ [((resB b).getD k (0, 0)).1] := by
  rw [take_get (0, 0) (by rw [resB_len]; exact hk), List.map_append]; rfl
theorem numM_bd (r : List UInt8) (most : Nat) : (numM r most).1 ≤ most := by
  unfold numM
  split
  · exact Nat.zero_le _
  split
  · exact Nat.zero_le _
  split
  · exact Nat.zero_le _
  · show valSO r ≤ most; omega
theorem two_ent {a b c d : Int} (h1 : a = c) (h2 : b = d) : ∀ j, j < [c, d].length → CEnt (fl [.c (.int .i64 a), .c (.int .i64 b)] j) (inF [c, d] j) := fun j hj => by
  rcases j with _ | _ | j
  · exact CEnt.int h1
  · exact CEnt.int h2
  · exact absurd hj (by simp)
section
variable {b : List UInt8} {k : Nat} {X : List Int}
theorem badKE (hk : k < (runsL b).length) (h0 : 0 < k) (herr : errL ((resB b).take k) = 0) (h : (numM ((runsL b).getD k []) 2147483647).2 ≠ 0) : (numM ((runsL b).getD k []) 2147483647).2 = errL (resB b) := by
  have hat := res_at hk
  rw [if_neg (by omega)] at hat
  rw [← hat] at h ⊢
  exact (errL_bad (by rw [resB_len]; exact hk) herr h).symm
theorem bad0E (hk : k < (runsL b).length) (h0 : k = 0) (herr : errL ((resB b).take k) = 0) (h : (numM ((runsL b).getD k []) 2147483727).2 ≠ 0) : (numM ((runsL b).getD k []) 2147483727).2 = errL (resB b) := by
  have hat := res_at hk
  rw [if_pos h0] at hat
  rw [← hat] at h ⊢
  exact (errL_bad (by rw [resB_len]; exact hk) herr h).symm
theorem badK (hk : k < (runsL b).length) (h0 : 0 < k) (herr : errL ((resB b).take k) = 0) (h : (numM ((runsL b).getD k []) 2147483647).2 ≠ 0) : errL (resB b) ≠ 0 := by
  rw [← badKE hk h0 herr h]; exact h
theorem bad0 (hk : k < (runsL b).length) (h0 : k = 0) (herr : errL ((resB b).take k) = 0) (h : (numM ((runsL b).getD k []) 2147483727).2 ≠ 0) : errL (resB b) ≠ 0 := by
  rw [← bad0E hk h0 herr h]; exact h
theorem keepK (hk : k < (runsL b).length) (h0 : 0 < k) (hX : X = arcsOf (((resB b).take k).map (·.1))) (herr : errL ((resB b).take k) = 0) (h : (numM ((runsL b).getD k []) 2147483647).2 = 0) : X ++ [((numM ((runsL b).getD k []) 2147483647).1 : Int)] = arcsOf (((resB b).take (k + 1)).map (·.1)) ∧ errL ((resB b).take (k + 1)) = 0 := by
  have hat := res_at hk
  rw [if_neg (by omega)] at hat
  have hkR : k < (resB b).length := by rw [resB_len]; exact hk
  refine ⟨?_, by rw [errL_one hkR herr, hat, h]⟩
  rw [res_take hk, hat, arcs_snoc _ (fun e => by have := congrArg List.length e; rw [List.length_map, List.length_take, List.length_nil] at this; omega), hX]
theorem keep0 (hk : k < (runsL b).length) (h0 : k = 0) (herr : errL ((resB b).take k) = 0) (h : (numM ((runsL b).getD k []) 2147483727).2 = 0) : [((min ((numM ((runsL b).getD k []) 2147483727).1 / 40) 2 : Nat) : Int), ((numM ((runsL b).getD k []) 2147483727).1 : Int) - 40 * ((min ((numM ((runsL b).getD k []) 2147483727).1 / 40) 2 : Nat) : Int)] = arcsOf (((resB b).take (k + 1)).map (·.1)) ∧ errL ((resB b).take (k + 1)) = 0 := by
  have hat := res_at hk
  rw [if_pos h0] at hat
  have hkR : k < (resB b).length := by rw [resB_len]; exact hk
  refine ⟨?_, by rw [errL_one hkR herr, hat, h]⟩
  rw [res_take hk, hat, h0]
  rfl
end
set_option maxHeartbeats 1000000 in
theorem oget_ac (b : List UInt8) (hb : b.length ≤ 1000000) : ACp gs Tryz.prog 143 [bsC b] (.tup 2 (fl [strC (ogetM b).1, .err (ogetM b).2])) := by
  have hrl := runs_len b.length b (Nat.le_refl _)
  have hRl := resB_len b
  refine ac_of 54 Tryz.func143 rfl rfl rfl (fun al w0 F0 St0 => ?_)
  refine jcr ?_
  refine jqe (jeal (n := 1) zr9 rfl fun p1 => ?_)
  refine jqe (jeal (n := 1) zr28 rfl fun p2 => ?_)
  refine jN ?_;refine jcs ?_;refine jcr ?_;refine jq jrm ?_;refine jq jrl ?_;refine jq jrc ?_;refine jN ?_;refine jcc (fun h116 => ?_) fun h116 => ?_
  · refine jcs ?_;refine jcdZ (.rd 0 (.one 1 (.one 2 .done))) ?_;refine jzq (jrde 1) ?_
    refine jzm (jmst 1 ?_)
    refine jzm (jmst 1 ?_)
    refine jzd ?_;refine jtn ?_
    refine jR (jtr (jrt (hres := res_2 rfl javc javc) (hv := ?_)))
    have h0 : ogetM b = ([], 2) := by rw [List.length_eq_zero_iff.1 (show b.length = 0 by omega), get_nil]
    exact CEnt.tup2 (CEnt.strL (by rw [h0])) (CEnt.errN (by rw [h0]))
  refine jS (jtn ?_)
  have hne : b ≠ [] := fun e => by subst e; simp_all
  refine jcr ?_
  refine jqe (jeal (n := 1) zr51 rfl fun p3 => ?_)
  refine jN ?_;refine jcs ?_;refine jcr ?_;refine jq jrm ?_
  refine jqe (jecS (runs_ac b) ?_)
  rintro _ _ ⟨gS, rfl, rfl⟩
  refine jN ?_;refine jB ?_;refine jE (blk_ent 0 (m := 1) (F := fun _ => strC []) rfl (Nat.le_refl _) (fun _ => rfl) (fun j hj => by obtain rfl : j = 0 := (by omega); exact cZ)) ?_;refine jE (blk_ent 1 (m := 1) (F := fun _ => .c .nilIface) rfl (Nat.le_refl _) (fun _ => rfl) (fun j hj => by obtain rfl : j = 0 := (by omega); exact cZ)) ?_;refine jE (blk_ent 2 (m := 1) (F := fun _ => .os 3 none 0 0 1) rfl (Nat.le_refl _) (fun _ => rfl) (fun j hj => by obtain rfl : j = 0 := (by omega); exact CEnt.nilO)) ?_;refine jE (ent_none (inF [])) ?_;refine code_range (π := List Int × Option Nat) (q := List Int × Option Nat) ((runsL b).length) (fun k => [bsC ((runsL b).getD k [])]) ([(gS, .blk 1 (fun _ => bsC b))]) (fun (X, ga) => [(p1, .blk 1 (fun _ => strC [])), (p2, .blk 1 (fun _ => .c .nilIface)), (p3, .blk 1 (fun _ => .os 3 ga 0 X.length 1)), (ga, .blk X.length (inF X))]) (fun k (X, ga) => X = arcsOf (((resB b).take k).map (·.1)) ∧ errL ((resB b).take k) = 0) (fun (X, ga) => [(p1, .blk 1 (fun _ => strC [])), (p2, .blk 1 (fun _ => .err (errL (resB b)))), (p3, .blk 1 (fun _ => .os 3 ga 0 X.length 1)), (ga, .blk X.length (inF X))]) (fun c _ => c = .ret ∧ errL (resB b) ≠ 0) (([], none)) [3, 0, 1, 2, 4] rfl rfl (by kernel_rfl) (runs_iter b gS (by omega)) (⟨rfl, rfl⟩) (by decide) rfl (fun _ _ => rfl) rfl ?_ ?_ ?_
  · intro k hk l al2 w2 F2 S2 R0 R1
    rintro ⟨X, ga⟩ ⟨hX, herr⟩
    have hXl := arcs_len (((resB b).take k).map (·.1))
    rw [← hX, List.length_map, List.length_take] at hXl
    have hkR : k < (resB b).length := by omega
    have hrun : 0 < ((runsL b).getD k []).length := runs_pos b.length b (Nat.le_refl _) _ (getD_mem' [] hk)
    have hat := res_at hk
    have hX0 : X.length > 0 ↔ 0 < k := ⟨fun h => Nat.pos_of_ne_zero fun e => by subst e; rw [hX] at h; simp [arcsOf] at h, fun h => by have := hXl.2 (fun e => by have := congrArg List.length e; rw [List.length_map, List.length_take, List.length_nil] at this; omega); omega⟩
    refine jcg ?_;refine jq jrm ?_;refine jN ?_;refine assign_norm ?_;refine jB ?_;refine jcs ?_;refine jcr ?_;refine jqo jrdo ?_;refine jq jrl ?_;refine jq jrc ?_;refine jN ?_;refine jcc (fun h121 => ?_) fun h121 => ?_
    · refine jcr ?_;refine jq jrm ?_
      refine jqe (jecP (number_ac ((runsL b).getD k []) 2147483647 hrun (by omega)) ?_)
      refine jq jrm ?_;refine jq jrx ?_;refine jq jrx ?_;refine jq jrm ?_;refine jq jrm ?_;refine jN ?_;refine jcs ?_;refine jcr ?_;refine jq jrm ?_;refine jq jre ?_;refine jN ?_;refine jcc (fun h123 => ?_) fun h123 => ?_
      · refine jcr ?_;refine jq jrm ?_
        refine jqm (jmst 1 ?_)
        refine jqm (jmst 1 ?_)
        refine jN ?_
        refine jR (jtr (jtr (jbr ?_)))
        refine round_ret ((X, ga)) ?_ rfl ?_
        · exact ⟨rfl, badK hk (by omega) herr (by assumption)⟩
        · exact .blk rfl (fun j hj => by obtain rfl : j = 0 := (by omega); exact cZ) (.blk rfl (fun j hj => by obtain rfl : j = 0 := (by omega); exact CEnt.errN (badKE hk (by omega) herr (by assumption)).symm) (.same (.same (.same .nil))))
      refine jS (jtn ?_)
      refine jcr ?_;refine jqo jrdo ?_;refine jq jrm ?_
      refine jqe (jebl 1 1 zr3 fun p4 => ?_)
      refine jqm (m_appendC rowC_in (l2 := [((numM ((runsL b).getD k []) 2147483647).1 : Int)]) rfl rfl rfl rfl (by exact Nat.le_of_eq (Nat.mul_one _)) (fun _ _ => cZ) (src_os rfl (.inl rfl) (by decide)) rfl (hh_ints (.cons (CEnt.int (rfl)) .nil)) Tryz.underlying51 nu51 sz3 zr3 by3 rfl (by (simp; omega)) (by (simp; omega)) (leaf_flk rfl rfl) rfl rfl (Nat.mul_one _) (fun p5 => ?_))
      refine jqm (jmst 1 ?_)
      refine jN ?_
      refine jX (jte (jbx ?_))
      refine round_norm ((X ++ [((numM ((runsL b).getD k []) 2147483647).1 : Int)], p5)) ?_ rfl ?_
      · exact keepK hk (by omega) hX herr (by omega)
      · exact .same (.same (.blk rfl (fun j hj => by obtain rfl : j = 0 := (by omega); exact cZ) (.same (.same .nil))))
    refine jS (jtn ?_)
    refine jcr ?_;refine jq jrm ?_
    refine jqe (jecP (number_ac ((runsL b).getD k []) 2147483727 hrun (by omega)) ?_)
    refine jq jrm ?_;refine jq jrx ?_;refine jq jrx ?_;refine jq jrm ?_;refine jq jrm ?_;refine jN ?_;refine jcs ?_;refine jcr ?_;refine jq jrm ?_;refine jq jre ?_;refine jN ?_;refine jcc (fun h130 => ?_) fun h130 => ?_
    · refine jcr ?_;refine jq jrm ?_
      refine jqm (jmst 1 ?_)
      refine jqm (jmst 1 ?_)
      refine jN ?_
      refine jR (jtr (jbr ?_))
      refine round_ret ((X, ga)) ?_ rfl ?_
      · exact ⟨rfl, bad0 hk (by omega) herr (by assumption)⟩
      · exact .blk rfl (fun j hj => by obtain rfl : j = 0 := (by omega); exact cZ) (.blk rfl (fun j hj => by obtain rfl : j = 0 := (by omega); exact CEnt.errN (bad0E hk (by omega) herr (by assumption)).symm) (.same (.same (.same .nil))))
    refine jS (jtn ?_)
    have hbd := numM_bd ((runsL b).getD k []) 2147483727
    refine jcr ?_;refine jq jrm ?_;refine jq jrq ?_;refine jq (rd_min2 rfl rfl rfl) ?_;refine jq jrm ?_;refine jN ?_;refine jcg ?_;refine jq jrm ?_;refine jq jrm ?_;refine jq jrm ?_;refine jq jra ?_;refine jq jra ?_
    refine jqe (jebl 2 1 zr3 fun p4 => ?_)
    refine seq_ent (pick_ent [0, 1, 2, 5, 4] (by decide) rfl) ?_
    refine jqm (jmst 1 ?_)
    refine jN ?_;refine jbn ?_;refine round_norm (([((min ((numM ((runsL b).getD k []) 2147483727).1 / 40) 2 : Nat) : Int), ((numM ((runsL b).getD k []) 2147483727).1 : Int) - 40 * ((min ((numM ((runsL b).getD k []) 2147483727).1 / 40) 2 : Nat) : Int)], p4)) ?_ rfl ?_
    · exact keep0 hk (by omega) herr (by omega)
    · exact .same (.same (.blk rfl (fun j hj => by obtain rfl : j = 0 := (by omega); exact CEnt.osI rfl) (.blk rfl (two_ent (by omega) (by omega)) (.same .nil))))
  · rintro ⟨X, ga⟩ ⟨hX, herr⟩
    rw [List.take_of_length_le (by omega)] at hX herr
    refine jbn (jtn ?_)
    refine jcr ?_;refine jqo jrdo ?_;refine seq_ent (freeze 3 rfl) ?_;refine seq_ent (thawIL 50 X rfl rfl rfl (Nat.ble_eq_true_of_le (Nat.le_refl _)) (fun j hj => cZ)) ?_
    refine jqe (jecP (otext_ac X) ?_)
    refine jq jrx ?_;refine jq jrx ?_
    refine jqm (jmst 1 ?_)
    refine jqm (jmst 1 ?_)
    refine jN ?_
    refine jR (jrt (hres := res_2 rfl javc javc) (hv := ?_))
    have hg := get_text hne herr
    rw [← hX] at hg
    exact CEnt.tup2 (CEnt.strL (by rw [hg])) (CEnt.errN (by rw [hg]))
  · rintro _ ⟨X, ga⟩ ⟨rfl, hbad⟩
    refine .inl ⟨rfl, ?_⟩
    refine jbr (jtr (jrt (hres := res_2 rfl javc javc) (hv := ?_)))
    have hb := get_err hne hbad
    exact CEnt.tup2 (CEnt.strL (by rw [hb])) (CEnt.errN (by rw [hb]))
end
section
variable {gs : List Nat} [Ok9 gs]
open Go.RowKit Cal
set_option linter.unusedVariables false
end
section
open Go.RowKit Cal
def dg (b : List UInt8) (i : Nat) : Int := ((b.getD i 0).toNat : Int) - 48
def isDg (b : List UInt8) (i : Nat) : Prop := 48 ≤ ((b.getD i 0).toNat : Int) ∧ ((b.getD i 0).toNat : Int) ≤ 57
instance (b : List UInt8) (i : Nat) : Decidable (isDg b i) := by unfold isDg; infer_instance
def two (b : List UInt8) (j : Nat) : Int := 10 * dg b (2 * j) + dg b (2 * j + 1)
def getD6 (b : List UInt8) : D6 := ⟨100 * two b 0 + two b 1, two b 2, two b 3, two b 4, two b 5, two b 6⟩
def formP (b : List UInt8) : Prop := b.length = 15 ∧ ((b.getD 14 0).toNat : Int) = 90 ∧ ∀ i, i < 14 → isDg b i
instance (b : List UInt8) : Decidable (formP b) := by unfold formP; infer_instance
def getE (b : List UInt8) : Nat := if formP b then (if RightP (getD6 b) then 0 else 1) else 4
def getV (b : List UInt8) : Int := if formP b ∧ RightP (getD6 b) then secM (getD6 b) else 0

def texF (x : D6) : List Int := [x.y / 100, x.y % 100, x.m, x.d, x.h, x.mi, x.s]
def texL (x : D6) (i : Nat) : List UInt8 := ((texF x).take i).flatMap fun n => [figc n 10, figc n 1]
end
section
variable {gs : List Nat} [Ok9 gs]
open Go.RowKit Cal
set_option linter.unusedVariables false
end
section
variable {gs : List Nat} [Ok9 gs]
open Go.RowKit Cal
set_option linter.unusedVariables false

def twoI (b : List UInt8) (i j : Nat) : Int := if 2 * j + 1 < i then two b j else if 2 * j < i then dg b (2 * j) else 0
def twF (b : List UInt8) (i j : Nat) : CV := .c (.int .i64 (twoI b i j))

def twL (b : List UInt8) (i : Nat) : List Int := (List.range i).map (two b)
end
section
variable {gs : List Nat} [Ok9 gs]
open Go.RowKit

theorem oid08_ac (n : Nat) (l : List (List UInt8)) (k : Nat) (hl : 0 < l.length ∧ l.length ≤ 1000000) (hb : (nowL l).length ≤ 10000000) :
    AC gs Tryz.prog 112 [rdO n l k] [.op 0 (some n) 0]
      (fun r H' => r = strC (if (nextR 6 l k).is = true ∧ (ogetM (nextR 6 l k).body).2 = 0 then (ogetM (nextR 6 l k).body).1 else []) ∧ H' = [rdO n (nextR 6 l k).l (valK 6 l k fun b => (ogetM b).2)]) := by
  refine ac_of 5 Tryz.func112 rfl rfl rfl (fun al w0 F0 St0 => ?_)
  refine jcr ?_;refine jq jrm ?_;refine jN ?_;refine jcr ?_;refine jq jrm ?_
  refine jqm (jmcH 0 (valueS_ac (m := 0) (fv := fun _ => .top) (by kernel_rfl) n l k 6 ogetM hl hb (fun b h => oget_ac b (by omega))) ?_ (ho := rfl) (he := (.cons (se rfl CEnt.opI) (.cons (se rfl cZ) (.cons (se rfl CEnt.fn0) .nil)))))
  rintro _ _ ⟨rfl, rfl⟩
  refine ⟨_, _, rfl, cZ, ?_⟩
  refine jq jrm ?_;refine jN ?_;refine jR ?_
  exact end_H (.inl rfl) rfl (res_1 rfl (arv_tmp rfl)) cZ
end
section
variable {gs : List Nat} [Ok9 gs]
open Go.RowKit

def octM (least most : Int) (b : List UInt8) : List UInt8 × Nat := if (b.length : Int) < least then ([], 2) else if most < (b.length : Int) then ([], 3) else (b, 0)
theorem text08_ac [OkT gs] (n : Nat) (l : List (List UInt8)) (k : Nat) (most : Int) (hl : 0 < l.length ∧ l.length ≤ 1000000) (hb : (nowL l).length ≤ 10000000) :
    AC gs Tryz.prog 113 [rdO n l k] [.op 0 (some n) 0, .c (.int .i64 most)]
      (fun r H' => r = strC (if (nextR 12 l k).is = true ∧ askedM (nextR 12 l k).body most = 0 then (if askedM (nextR 12 l k).body most = 0 then (nextR 12 l k).body else []) else []) ∧ H' = [rdO n (nextR 12 l k).l (valK 12 l k fun b => askedM b most)]) := by
  have g : ∀ b : List UInt8, b.length ≤ 65530 → ACp gs Tryz.prog 144 (bsC b :: (List.range 1).map (fl [.rp 1 fun _ => .c (.int .i64 most)])) (.tup 2 (fl [strC (if askedM b most = 0 then b else []), .err (askedM b most)])) := fun b hb => by
    refine ac_of 10 Tryz.func144 rfl rfl rfl (fun al w0 F0 St0 => ?_)
    refine jcr ?_;refine jq jrm ?_;refine jq jrm ?_;refine jN ?_;refine jcr ?_;refine jq jrm ?_
    first | refine jqo jrdo ?_ | refine jq jrdr ?_
    refine jqe (jecP (xget_ac b most (by omega)) ?_)
    refine jq jrx ?_;refine jq jrx ?_;refine jq jrm ?_;refine jq jrm ?_;refine jN ?_
    refine jR jrt
  refine ac_of 8 Tryz.func113 rfl rfl rfl (fun al w0 F0 St0 => ?_)
  refine jcr ?_
  refine jqe (jebx 1 fun p1 => ?_)
  refine jq jrm ?_;refine jN ?_;refine jE (freeze 1 rfl) ?_;refine jE (thawP 3 (m := 1) rfl rfl (by decide)) ?_;refine jcr ?_;refine jq jrm ?_;refine jq jrmf ?_
  refine jqm (jmcH 0 (valueS_ac (fv := fl [.rp 1 fun _ => .c (.int .i64 most)]) (by kernel_rfl) n l k 12 (fun b => (if askedM b most = 0 then b else [], askedM b most)) hl hb g) ?_ (ho := rfl) (he := (.cons (se rfl CEnt.opI) (.cons (se rfl cZ) (.cons (se rfl (CEnt.fn1 (CEnt.rp int_box))) .nil)))))
  rintro _ _ ⟨rfl, rfl⟩
  refine ⟨_, _, rfl, cZ, ?_⟩
  refine jq jrm ?_;refine jN ?_;refine jR ?_
  exact end_H (.inl rfl) rfl (res_1 rfl (arv_tmp rfl)) cZ
end
section
variable {gs : List Nat} [Ok9 gs]
open Go.RowKit Cal

structure AA where
  kind : Int
  tag : Int
  least : Int
  most : Int
def askC (a : AA) : CV := .agg 4 (fl [.c (.int .i64 a.kind), .c (.int .i64 a.tag), .c (.int .i64 a.least), .c (.int .i64 a.most)])
def vN (n : Int) : VV := ⟨0, n, false, [], []⟩
def vI (b : Bool) : VV := ⟨0, 0, b, [], []⟩
def vB (b : List UInt8) : VV := ⟨0, 0, false, b, []⟩
def vT (t : List UInt8) : VV := ⟨0, 0, false, [], t⟩
def saidM (a : AA) (b : List UInt8) : VV × Nat :=
  if a.kind = 3 then (vN (rangeM b a.least a.most).1, (rangeM b a.least a.most).2) else
  if a.kind = 4 then (vN (rangeM b a.least a.most).1, (rangeM b a.least a.most).2) else
  if a.kind = 5 then (vI (isTrueM b).1, (isTrueM b).2) else
  if a.kind = 6 then (vB (octM a.least a.most b).1, (octM a.least a.most b).2) else
  if a.kind = 7 then (vT (if askedM b a.most = 0 then b else []), askedM b a.most) else
  if a.kind = 8 then (vT (ogetM b).1, (ogetM b).2) else
  if a.kind = 9 then (vN (getV b), getE b) else (vN ((maskM b).1 : Nat), (maskM b).2)
def tagA (a : AA) : Int := if a.kind = 3 then 2 else if a.kind = 4 then 10 else if a.kind = 5 then 1 else if a.kind = 6 then 4 else if a.kind = 7 then 12 else if a.kind = 8 then 6 else if a.kind = 9 then 24 else 3
structure R8R where
  l : List (List UInt8)
  k : Nat
  v : VV
def readV (tag : Int) (said : List UInt8 → VV × Nat) (l : List (List UInt8)) (k : Nat) : R8R :=
  ⟨(nextR tag l k).l, valK tag l k fun b => (said b).2, if (nextR tag l k).is = true ∧ (said (nextR tag l k).body).2 = 0 then (said (nextR tag l k).body).1 else VV.none⟩
def readR (a : AA) (l : List (List UInt8)) (k : Nat) : R8R :=
  if a.kind = 1 then ⟨enterL a.tag l k, (enterR a.tag l k).k, vI (enterR a.tag l k).is⟩ else
  if a.kind = 2 then ⟨leaveL l k, leaveK l k, VV.none⟩ else
  if a.kind = 11 then ⟨(nextR 0 l k).l, (nextR 0 l k).k, vB (nextR 0 l k).raw⟩ else readV (tagA a) (saidM a) l k
theorem readR_g {α : Type} (c : α → VV) (z : α) (hz : c z = VV.none) {a : AA} {l : List (List UInt8)} {k : Nat} {t : Int} {f : List UInt8 → α × Nat} (h1 : a.kind ≠ 1) (h2 : a.kind ≠ 2) (h3 : a.kind ≠ 11) (hs : saidM a = fun b => (c (f b).1, (f b).2)) (ht : tagA a = t) :
    readR a l k = ⟨(nextR t l k).l, valK t l k fun b => (f b).2, c (if (nextR t l k).is = true ∧ (f (nextR t l k).body).2 = 0 then (f (nextR t l k).body).1 else z)⟩ := by
  subst ht
  unfold readR
  rw [if_neg h1, if_neg h2, if_neg h3]
  unfold readV
  rw [hs]
  simp only
  split
  · rfl
  · rw [hz]
end
section
open Go.RowKit Cal
def muS (l : List (List UInt8)) (k : Nat) : Nat := sumL l + if k = 0 then 1 else 0
theorem sumL_set (x : List UInt8) : ∀ {l : List (List UInt8)} {i : Nat}, i < l.length → sumL (l.set i x) + (l.getD i []).length = sumL l + x.length
  | y :: l, 0, _ => by simp only [List.set_cons_zero, List.getD_cons_zero, sumL, List.map_cons, List.sum_cons]; omega
  | y :: l, i + 1, h => by
    have := sumL_set x (l := l) (i := i) (by simpa using h)
    simp only [List.set_cons_succ, List.getD_cons_succ, sumL, List.map_cons, List.sum_cons] at this ⊢
    omega
theorem now_sum (l : List (List UInt8)) : (nowL l).length ≤ sumL l := by
  unfold nowL
  by_cases h : l.length - 1 < l.length
  · have := sumL_set [] h
    simp only [List.length_nil] at this
    omega
  · rw [List.getD_eq_getElem?_getD, List.getElem?_eq_none (by omega)]
    simp
theorem next_mu {t : Int} {l : List (List UInt8)} {k : Nat} (hl : 0 < l.length) : (k ≠ 0 → nextR t l k = ⟨l, k, 0, [], [], false⟩) ∧ (nextR t l k).l.length = l.length ∧ muS (nextR t l k).l (nextR t l k).k ≤ muS l k ∧ (k = 0 → muS (nextR t l k).l (nextR t l k).k < muS l k) ∧
    ((nextR t l k).is = true ↔ (nextR t l k).k = 0) ∧ ((nextR t l k).is = true → k = 0) ∧ ((nextR t l k).is = false → (nextR t l k).l = l) := by
  have hb := nextM_bd (nowL l)
  have hs := sumL_set (nextM (nowL l)).rest (show l.length - 1 < l.length by omega)
  unfold nextR
  by_cases h0 : k ≠ 0
  · rw [if_pos h0]
    exact ⟨fun _ => rfl, rfl, Nat.le_refl _, fun h => absurd h h0, by simp [h0], by simp, fun _ => rfl⟩
  · have hk : k = 0 := by omega
    subst hk
    rw [if_neg h0]
    by_cases h1 : (nextM (nowL l)).e ≠ 0
    · rw [if_pos h1]
      refine ⟨fun h => absurd rfl h, rfl, ?_, fun _ => ?_, by simp [h1], by simp, fun _ => rfl⟩ <;> (unfold muS; dsimp only; rw [if_neg h1]; simp)
    · rw [if_neg h1]
      by_cases h2 : t ≠ 0 ∧ ((nextM (nowL l)).tag : Int) ≠ t
      · rw [if_pos h2]
        refine ⟨fun h => absurd rfl h, rfl, ?_, fun _ => ?_, by simp, by simp, fun _ => rfl⟩ <;> (unfold muS; dsimp only; rw [if_neg (by decide)]; simp)
      · rw [if_neg h2]
        have hr := hb.2.2.2.2.2 (by omega)
        have e : (l.getD (l.length - 1) []).length = (nowL l).length := rfl
        refine ⟨fun h => absurd rfl h, by simp, ?_, fun _ => ?_, by simp, by simp, fun h => absurd h (by simp)⟩ <;> (unfold muS; dsimp only; rw [if_pos rfl]; omega)
theorem nextM_sum (b : List UInt8) (h : (nextM b).e = 0) : (nextM b).body.length + (nextM b).rest.length < b.length := by
  have hm := measM_rest (b.drop 1)
  revert h
  unfold nextM
  by_cases h0 : b.length = 0
  · rw [if_pos h0]; intro h; cases h
  · rw [if_neg h0]
    by_cases h1 : knownM ((b.getD 0 0).toNat : Nat) = false
    · rw [if_pos h1]; intro h; cases h
    · rw [if_neg h1]
      dsimp only
      by_cases h2 : (measM (b.drop 1)).e ≠ 0
      · rw [if_pos h2]; intro h; exact absurd h h2
      · rw [if_neg h2]
        by_cases h3 : 65530 < (measM (b.drop 1)).n
        · rw [if_pos h3]; intro h; cases h
        · rw [if_neg h3]
          by_cases h4 : (measM (b.drop 1)).rest.length < (measM (b.drop 1)).n
          · rw [if_pos h4]; intro h; cases h
          · rw [if_neg h4]
            intro _
            have := hm.1
            rw [List.length_drop] at this
            simp only [List.length_take, List.length_drop]
            omega
theorem enter_mu {t : Int} {l : List (List UInt8)} {k : Nat} (hl : 0 < l.length) : (k ≠ 0 → enterL t l k = l ∧ (enterR t l k).k = k) ∧ muS (enterL t l k) (enterR t l k).k ≤ muS l k ∧ (k = 0 → muS (enterL t l k) (enterR t l k).k < muS l k) ∧
    ((enterR t l k).k = 0 → (enterL t l k).length = l.length + 1) ∧ ((enterR t l k).k ≠ 0 → (enterL t l k).length = l.length) ∧ ((enterR t l k).is = true ↔ (enterR t l k).k = 0) := by
  have hq : ∀ q, q = (if moreM l k = true ∧ madeM t = false then 5 else k) → (k ≠ 0 → q = k) ∧ (k = 0 → q = 0 ∨ q = 5) := by
    rintro _ rfl
    refine ⟨fun h => if_neg ?_, fun h => ?_⟩
    · rintro ⟨h1, _⟩
      unfold moreM at h1
      simp [h] at h1
    · subst h; split <;> simp
  unfold enterL enterR
  generalize hk : (if moreM l k = true ∧ madeM t = false then 5 else k) = q
  obtain ⟨q1, q2⟩ := hq q hk.symm
  obtain ⟨n1, n2, n3, n4, n5, n6, n7⟩ := next_mu (t := t) (l := l) (k := q) hl
  by_cases hi : (nextR t l q).is = true
  · have hk0 := n5.1 hi
    have hq0 := n6 hi
    subst hq0
    have hkz : k = 0 := by rcases Nat.eq_zero_or_pos k with h | h; exact h; exact (q1 (by omega)).symm
    subst hkz
    have hb : muS ((nextR t l 0).l ++ [(nextR t l 0).body]) (nextR t l 0).k < muS l 0 := by
      rw [hk0]
      revert hi
      unfold nextR
      rw [if_neg (by decide)]
      by_cases h1 : (nextM (nowL l)).e ≠ 0
      · rw [if_pos h1]; intro h; cases h
      · rw [if_neg h1]
        by_cases h2 : t ≠ 0 ∧ ((nextM (nowL l)).tag : Int) ≠ t
        · rw [if_pos h2]; intro h; cases h
        · rw [if_neg h2]
          intro _
          have h3 := nextM_sum (nowL l) (by omega)
          have h4 := sumL_set (nextM (nowL l)).rest (show l.length - 1 < l.length by omega)
          have e : (l.getD (l.length - 1) []).length = (nowL l).length := rfl
          unfold muS
          dsimp only
          rw [sumL_app, if_pos rfl]
          simp only [sumL, List.map_cons, List.map_nil, List.sum_cons, List.sum_nil] at h4 ⊢
          omega
    rw [if_pos hi]
    refine ⟨fun h => absurd rfl h, by omega, fun _ => hb, fun _ => by rw [List.length_append, n2]; rfl, fun h => absurd hk0 h, n5⟩
  · have hi' : (nextR t l q).is = false := by simpa using hi
    have hl' := n7 hi'
    have hk0 : (nextR t l q).k ≠ 0 := fun h => hi (n5.2 h)
    rw [if_neg hi, hl']
    refine ⟨fun h => ⟨rfl, ?_⟩, ?_, fun h => ?_, fun h => absurd h hk0, fun _ => rfl, n5⟩
    · have hq := q1 h
      rw [n1 (by omega)]
      exact hq
    · unfold muS; rw [if_neg hk0]; simp
    · unfold muS; rw [if_neg hk0, if_pos h]; simp
theorem leave_mu {l : List (List UInt8)} {k : Nat} (hl : 0 < l.length) : (k ≠ 0 → leaveL l k = l ∧ leaveK l k = k) ∧ muS (leaveL l k) (leaveK l k) ≤ muS l k ∧ (leaveK l k = 0 → k = 0 ∧ (leaveL l k).length + 1 = l.length ∧ 1 < l.length) ∧ (leaveK l k ≠ 0 → leaveL l k = l) := by
  have hk : (k ≠ 0 → leaveK l k = k) := fun h => by unfold leaveK; rw [if_pos h]
  have h0 : leaveK l k = 0 → k = 0 ∧ 1 < l.length := fun h => by
    unfold leaveK at h
    by_cases h1 : k ≠ 0
    · rw [if_pos h1] at h; exact absurd h h1
    · rw [if_neg h1] at h
      by_cases h2 : l.length = 1
      · rw [if_pos h2] at h; cases h
      · exact ⟨by omega, by omega⟩
  refine ⟨fun h => ⟨by unfold leaveL; rw [hk h, if_neg h], hk h⟩, ?_, fun h => ?_, fun h => by unfold leaveL; rw [if_neg h]⟩
  · unfold leaveL
    by_cases h : leaveK l k = 0
    · have h1 := h0 h
      rw [if_pos h]
      unfold muS
      rw [if_pos h, if_pos h1.1]
      have h2 := sumL_take (ls := l) (i := l.length - 1) (by omega)
      have h3 : l.take (l.length - 1 + 1) = l := List.take_of_length_le (by omega)
      rw [h3] at h2
      omega
    · rw [if_neg h]
      unfold muS
      rw [if_neg h]
      omega
  · have h1 := h0 h
    unfold leaveL
    rw [if_pos h, List.length_take]
    exact ⟨h1.1, by omega, h1.2⟩
theorem read_mu (a : AA) {l : List (List UInt8)} {k : Nat} (hl : 0 < l.length) : (k ≠ 0 → (readR a l k).l = l ∧ (readR a l k).k = k) ∧ muS (readR a l k).l (readR a l k).k ≤ muS l k ∧ (k = 0 → a.kind ≠ 2 → muS (readR a l k).l (readR a l k).k < muS l k) ∧
    (a.kind = 1 → ((readR a l k).k = 0 → (readR a l k).l.length = l.length + 1) ∧ ((readR a l k).k ≠ 0 → (readR a l k).l.length = l.length)) ∧
    (a.kind = 2 → ((readR a l k).k = 0 → (readR a l k).l.length + 1 = l.length ∧ 1 < l.length) ∧ ((readR a l k).k ≠ 0 → (readR a l k).l.length = l.length)) ∧
    (a.kind ≠ 1 → a.kind ≠ 2 → (readR a l k).l.length = l.length) ∧ ((readR a l k).k = 0 → k = 0) := by
  unfold readR
  by_cases h1 : a.kind = 1
  · rw [if_pos h1]
    obtain ⟨e1, e2, e3, e4, e5, e6⟩ := enter_mu (t := a.tag) (l := l) (k := k) hl
    exact ⟨e1, e2, fun h _ => e3 h, fun _ => ⟨e4, e5⟩, fun h => by omega, fun h => absurd h1 h, fun h => Nat.eq_zero_of_not_pos fun hk => by have h3 := (e1 (by omega)).2; have h4 : (enterR a.tag l k).k = 0 := h; omega⟩
  · rw [if_neg h1]
    by_cases h2 : a.kind = 2
    · rw [if_pos h2]
      obtain ⟨e1, e2, e3, e4⟩ := leave_mu (l := l) (k := k) hl
      exact ⟨e1, e2, fun _ h => absurd h2 h, fun h => by omega, fun _ => ⟨fun h => (e3 h).2, fun h => by dsimp only; rw [e4 h]⟩, fun _ h => absurd h2 h, fun h => (e3 h).1⟩
    · rw [if_neg h2]
      have key : ∀ (t : Int) (e : Nat), (k ≠ 0 → e = (nextR t l k).k) → (e = 0 → (nextR t l k).k = 0) → (k ≠ 0 → (nextR t l k).l = l ∧ e = k) ∧ muS (nextR t l k).l e ≤ muS l k ∧ (k = 0 → muS (nextR t l k).l e < muS l k) ∧ (nextR t l k).l.length = l.length ∧ (e = 0 → k = 0) := fun t e h3 h4 => by
        obtain ⟨n1, n2, n3, n4, n5, n6, n7⟩ := next_mu (t := t) (l := l) (k := k) hl
        have hm : muS (nextR t l k).l e ≤ muS (nextR t l k).l (nextR t l k).k := by
          unfold muS
          by_cases h : e = 0
          · rw [if_pos h, if_pos (h4 h)]; exact Nat.le_refl _
          · rw [if_neg h]; omega
        refine ⟨fun h => ⟨by rw [n1 h], by rw [h3 h, n1 h]⟩, by omega, fun h => by have := n4 h; omega, n2, fun h => n6 (n5.2 (h4 h))⟩
      by_cases h3 : a.kind = 11
      · rw [if_pos h3]
        obtain ⟨e1, e2, e3, e4, e5⟩ := key 0 (nextR 0 l k).k (fun _ => rfl) id
        exact ⟨e1, e2, fun h _ => e3 h, fun h => absurd h h1, fun h => absurd h h2, fun _ _ => e4, e5⟩
      · rw [if_neg h3]
        unfold readV
        have hv : ∀ f : List UInt8 → Nat, (k ≠ 0 → valK (tagA a) l k f = (nextR (tagA a) l k).k) ∧ (valK (tagA a) l k f = 0 → (nextR (tagA a) l k).k = 0) := fun f => by
          obtain ⟨n1, n2, n3, n4, n5, n6, n7⟩ := next_mu (t := tagA a) (l := l) (k := k) hl
          unfold valK
          refine ⟨fun h => if_neg fun hi => h (n6 hi), fun h => ?_⟩
          by_cases hi : (nextR (tagA a) l k).is = true
          · exact n5.1 hi
          · rw [if_neg hi] at h; exact h
        obtain ⟨e1, e2, e3, e4, e5⟩ := key (tagA a) (valK (tagA a) l k fun b => (saidM a b).2) (hv _).1 (hv _).2
        exact ⟨e1, e2, fun h _ => e3 h, fun h => absurd h h1, fun h => absurd h h2, fun _ _ => e4, e5⟩
abbrev StepR (α : Type) := List (List UInt8) → Nat → (List (List UInt8) × Nat) × α
structure StepOk {α : Type} (sp : StepR α) : Prop where
  mu : ∀ l k, 0 < l.length → moreM l k = true → muS (sp l k).1.1 (sp l k).1.2 < muS l k
  len : ∀ l k, 0 < l.length → moreM l k = true → (sp l k).1.2 = 0 → (sp l k).1.1.length = l.length
  grow : ∀ l k, 0 < l.length → moreM l k = true → l.length ≤ (sp l k).1.1.length ∧ (sp l k).1.1.length ≤ l.length + 16
section
variable {α : Type} (sp : StepR α) (l0 : List (List UInt8)) (k0 : Nat) (most : Int)
def stG : Nat → (List (List UInt8) × Nat) × List α
  | 0 => ((l0, k0), [])
  | j + 1 => ((sp (stG j).1.1 (stG j).1.2).1, (stG j).2 ++ [(sp (stG j).1.1 (stG j).1.2).2])
def goB (j : Nat) : Bool := moreM (stG sp l0 k0 j).1.1 (stG sp l0 k0 j).1.2 && decide ((j : Int) < most)
def firstG (p : Nat → Bool) : Nat → Nat → Nat
  | 0, j => j
  | n + 1, j => if p j = true then firstG p n (j + 1) else j
theorem firstG_spec (p : Nat → Bool) : ∀ n j, (∀ i, i < j → p i = true) → (∀ i, i < firstG p n j → p i = true) ∧ (p (firstG p n j) = false ∨ firstG p n j = j + n)
  | 0, j, h => ⟨h, .inr rfl⟩
  | n + 1, j, h => by
    unfold firstG
    by_cases hp : p j = true
    · rw [if_pos hp]
      obtain ⟨h1, h2⟩ := firstG_spec p n (j + 1) (fun i hi => if e : i = j then e ▸ hp else h i (by omega))
      exact ⟨h1, h2.imp id (fun e => by omega)⟩
    · rw [if_neg hp]
      exact ⟨h, .inl (by simpa using hp)⟩
def jG : Nat := firstG (goB sp l0 k0 most) (muS l0 k0 + 1) 0
def endG : List (List UInt8) × Nat :=
  let s := (stG sp l0 k0 (jG sp l0 k0 most)).1
  if moreM s.1 s.2 = true then (leaveL s.1 3, leaveK s.1 3) else (leaveL s.1 s.2, leaveK s.1 s.2)
theorem stG_out : ∀ j, (stG sp l0 k0 j).2.length = j
  | 0 => rfl
  | j + 1 => by
    show (_ ++ [_]).length = _
    rw [List.length_append, stG_out j]; rfl
variable {sp l0 k0 most}
theorem stG_bd (ok : StepOk sp) (hl : 0 < l0.length) : ∀ j, (∀ i, i < j → goB sp l0 k0 most i = true) → muS (stG sp l0 k0 j).1.1 (stG sp l0 k0 j).1.2 + j ≤ muS l0 k0 ∧ ((stG sp l0 k0 j).1.2 = 0 → (stG sp l0 k0 j).1.1.length = l0.length) ∧ l0.length ≤ (stG sp l0 k0 j).1.1.length ∧ (stG sp l0 k0 j).1.1.length ≤ l0.length + 16
  | 0, _ => ⟨Nat.le_refl _, fun _ => rfl, Nat.le_refl _, by show l0.length ≤ l0.length + 16; omega⟩
  | j + 1, h => by
    obtain ⟨h1, h2, h3, h4⟩ := stG_bd ok hl j fun i hi => h i (by omega)
    have hg := h j (by omega)
    unfold goB at hg
    rw [Bool.and_eq_true] at hg
    have hk := (more_pos hg.1).1
    have hlen := h2 hk
    have hp : 0 < (stG sp l0 k0 j).1.1.length := by omega
    have m1 := ok.mu _ _ hp hg.1
    have m2 := ok.len _ _ hp hg.1
    have m3 := ok.grow _ _ hp hg.1
    show muS (sp (stG sp l0 k0 j).1.1 (stG sp l0 k0 j).1.2).1.1 (sp (stG sp l0 k0 j).1.1 (stG sp l0 k0 j).1.2).1.2 + (j + 1) ≤ _ ∧ ((sp (stG sp l0 k0 j).1.1 (stG sp l0 k0 j).1.2).1.2 = 0 → (sp (stG sp l0 k0 j).1.1 (stG sp l0 k0 j).1.2).1.1.length = _) ∧ _ ≤ (sp (stG sp l0 k0 j).1.1 (stG sp l0 k0 j).1.2).1.1.length ∧ (sp (stG sp l0 k0 j).1.1 (stG sp l0 k0 j).1.2).1.1.length ≤ _
    exact ⟨by omega, fun e => by rw [m2 e, hlen], by omega, by omega⟩
theorem jG_stop (ok : StepOk sp) (hl : 0 < l0.length) : (∀ i, i < jG sp l0 k0 most → goB sp l0 k0 most i = true) ∧ goB sp l0 k0 most (jG sp l0 k0 most) = false := by
  obtain ⟨h1, h2⟩ := firstG_spec (goB sp l0 k0 most) (muS l0 k0 + 1) 0 (fun i hi => absurd hi (Nat.not_lt_zero i))
  refine ⟨h1, ?_⟩
  rcases h2 with h2 | h2
  · exact h2
  · have := (stG_bd ok hl _ h1).1
    rw [h2] at this
    omega
theorem jG_one (ok : StepOk sp) (hl : 0 < l0.length) {j : Nat} (h1 : ∀ i, i < j → goB sp l0 k0 most i = true) (h2 : goB sp l0 k0 most j = false) : jG sp l0 k0 most = j := by
  obtain ⟨h3, h4⟩ := jG_stop (k0 := k0) (most := most) ok hl
  rcases Nat.lt_trichotomy (jG sp l0 k0 most) j with h | h | h
  · rw [h1 _ h] at h4; cases h4
  · exact h
  · rw [h3 _ h] at h2; cases h2
end
end
section
open Go.RowKit Cal
theorem b8_eq {n : Nat} {x : UInt8} (h : n % 256 = x.toNat) : b8 n = x := UInt8.toNat_inj.1 (by rw [b8_mod, h])
theorem list_one {x : List UInt8} (h : x.length = 1) : x = [x.getD 0 0] := by
  match x, h with
  | [a], _ => rfl
theorem list_two {x : List UInt8} (h : x.length = 2) : x = [x.getD 0 0, x.getD 1 0] := by
  match x, h with
  | [a, b], _ => rfl
theorem list_three {x : List UInt8} (h : x.length = 3) : x = [x.getD 0 0, x.getD 1 0, x.getD 2 0] := by
  match x, h with
  | [a, b, c], _ => rfl
theorem list_four {x : List UInt8} (h : x.length = 4) : x = [x.getD 0 0, x.getD 1 0, x.getD 2 0, x.getD 3 0] := by
  match x, h with
  | [a, b, c, d], _ => rfl
theorem meas_canon {b : List UInt8} (h : (measM b).e = 0) : b = lenL (measM b).n ++ (measM b).rest := by
  revert h
  unfold measM
  by_cases h0 : b.length = 0
  · rw [if_pos h0]; intro h; cases h
  · rw [if_neg h0]
    dsimp only
    have hb : b = b.getD 0 0 :: b.drop 1 := by
      match b, h0 with
      | c :: r, _ => rfl
    generalize hc : b.getD 0 0 = c at hb ⊢
    generalize hr : b.drop 1 = r at hb ⊢
    subst hb
    have hc8 := c.toNat_lt
    by_cases h1 : c.toNat ≤ 127
    · rw [if_pos h1]
      intro _
      unfold lenL
      dsimp only
      rw [if_pos (by omega)]
      rw [b8_eq (show c.toNat % 256 = c.toNat by omega)]
      rfl
    · rw [if_neg h1]
      by_cases h2 : c.toNat = 128 ∨ 132 < c.toNat
      · rw [if_pos h2]; intro h; cases h
      · rw [if_neg h2]
        by_cases h3 : r.length < c.toNat - 128
        · rw [if_pos h3]; intro h; cases h
        · rw [if_neg h3]
          by_cases h4 : beN (r.take (c.toNat - 128)) ≤ 127 ∨ (r.getD 0 0).toNat = 0
          · rw [if_pos h4]; intro h; cases h
          · rw [if_neg h4]
            intro _
            dsimp only
            obtain ⟨h5, h6⟩ := not_or.1 h4
            have hd : c :: r = c :: (r.take (c.toNat - 128) ++ r.drop (c.toNat - 128)) := by rw [List.take_append_drop]
            have hl : (r.take (c.toNat - 128)).length = c.toNat - 128 := by rw [List.length_take]; omega
            have h0r : (r.take (c.toNat - 128)).getD 0 0 = r.getD 0 0 := by
              simp only [List.getD_eq_getElem?_getD, List.getElem?_take]
              rw [if_pos (by omega)]
            rw [hd]
            rw [← h0r] at h6
            generalize r.drop (c.toNat - 128) = q at *
            generalize r.take (c.toNat - 128) = x at *
            have hcx : c = b8 c.toNat := (b8_eq (by omega)).symm
            obtain e | e | e | e : c.toNat = 129 ∨ c.toNat = 130 ∨ c.toNat = 131 ∨ c.toNat = 132 := by omega
            · have hx := list_one (x := x) (by omega)
              generalize x.getD 0 0 = x0 at hx h6
              subst hx
              have h7 := x0.toNat_lt
              simp only [beN, List.foldl_cons, List.foldl_nil, Nat.zero_mul, Nat.zero_add] at h5 ⊢
              unfold lenL
              rw [if_neg (by omega), if_pos (by omega), b8_eq (show x0.toNat % 256 = x0.toNat by omega), hcx, e]
              rfl
            · have hx := list_two (x := x) (by omega)
              generalize x.getD 0 0 = x0 at hx h6
              generalize x.getD 1 0 = x1 at hx
              subst hx
              have h7 := x0.toNat_lt
              have h8 := x1.toNat_lt
              simp only [beN, List.foldl_cons, List.foldl_nil, Nat.zero_mul, Nat.zero_add] at h5 ⊢
              unfold lenL
              rw [if_neg (by omega), if_neg (by omega), if_pos (by omega), b8_eq (show (x0.toNat * 256 + x1.toNat) / 256 % 256 = x0.toNat by omega), b8_eq (show (x0.toNat * 256 + x1.toNat) % 256 = x1.toNat by omega), hcx, e]
              rfl
            · have hx := list_three (x := x) (by omega)
              generalize x.getD 0 0 = x0 at hx h6
              generalize x.getD 1 0 = x1 at hx
              generalize x.getD 2 0 = x2 at hx
              subst hx
              have h7 := x0.toNat_lt
              have h8 := x1.toNat_lt
              have h9 := x2.toNat_lt
              simp only [beN, List.foldl_cons, List.foldl_nil, Nat.zero_mul, Nat.zero_add] at h5 ⊢
              unfold lenL
              rw [if_neg (by omega), if_neg (by omega), if_neg (by omega), if_pos (by omega), b8_eq (show ((x0.toNat * 256 + x1.toNat) * 256 + x2.toNat) / 65536 % 256 = x0.toNat by omega), b8_eq (show ((x0.toNat * 256 + x1.toNat) * 256 + x2.toNat) / 256 % 256 = x1.toNat by omega), b8_eq (show ((x0.toNat * 256 + x1.toNat) * 256 + x2.toNat) % 256 = x2.toNat by omega), hcx, e]
              rfl
            · have hx := list_four (x := x) (by omega)
              generalize x.getD 0 0 = x0 at hx h6
              generalize x.getD 1 0 = x1 at hx
              generalize x.getD 2 0 = x2 at hx
              generalize x.getD 3 0 = x3 at hx
              subst hx
              have h7 := x0.toNat_lt
              have h8 := x1.toNat_lt
              have h9 := x2.toNat_lt
              have h10 := x3.toNat_lt
              simp only [beN, List.foldl_cons, List.foldl_nil, Nat.zero_mul, Nat.zero_add] at h5 ⊢
              unfold lenL
              rw [if_neg (by omega), if_neg (by omega), if_neg (by omega), if_neg (by omega), b8_eq (show (((x0.toNat * 256 + x1.toNat) * 256 + x2.toNat) * 256 + x3.toNat) / 16777216 % 256 = x0.toNat by omega), b8_eq (show (((x0.toNat * 256 + x1.toNat) * 256 + x2.toNat) * 256 + x3.toNat) / 65536 % 256 = x1.toNat by omega), b8_eq (show (((x0.toNat * 256 + x1.toNat) * 256 + x2.toNat) * 256 + x3.toNat) / 256 % 256 = x2.toNat by omega), b8_eq (show (((x0.toNat * 256 + x1.toNat) * 256 + x2.toNat) * 256 + x3.toNat) % 256 = x3.toNat by omega), hcx, e]
              rfl
theorem nx_known {b : List UInt8} (h : (nextM b).e = 0) : knownM ((nextM b).tag : Nat) = true := by
  revert h
  unfold nextM
  by_cases h0 : b.length = 0
  · rw [if_pos h0]; intro h; cases h
  · rw [if_neg h0]
    by_cases h1 : knownM ((b.getD 0 0).toNat : Nat) = false
    · rw [if_pos h1]; intro h; cases h
    · rw [if_neg h1]
      dsimp only
      by_cases h2 : (measM (b.drop 1)).e ≠ 0
      · rw [if_pos h2]; intro h; exact absurd h h2
      · rw [if_neg h2]
        by_cases h3 : 65530 < (measM (b.drop 1)).n
        · rw [if_pos h3]; intro h; cases h
        · rw [if_neg h3]
          by_cases h4 : (measM (b.drop 1)).rest.length < (measM (b.drop 1)).n
          · rw [if_pos h4]; intro h; cases h
          · rw [if_neg h4]
            intro _
            simpa using h1
theorem next_canon {b : List UInt8} (h : (nextM b).e = 0) : b = putL ((nextM b).tag : Nat) (nextM b).body ++ (nextM b).rest ∧ knownM ((nextM b).tag : Nat) = true ∧ (nextM b).body.length ≤ 65530 := by
  refine ⟨?_, nx_known h, (nextM_bd b).2.2.1⟩
  revert h
  unfold nextM
  by_cases h0 : b.length = 0
  · rw [if_pos h0]; intro h; cases h
  · rw [if_neg h0]
    by_cases h1 : knownM ((b.getD 0 0).toNat : Nat) = false
    · rw [if_pos h1]; intro h; cases h
    · rw [if_neg h1]
      dsimp only
      by_cases h2 : (measM (b.drop 1)).e ≠ 0
      · rw [if_pos h2]; intro h; exact absurd h h2
      · rw [if_neg h2]
        have hm := meas_canon (b := b.drop 1) (by omega)
        by_cases h3 : 65530 < (measM (b.drop 1)).n
        · rw [if_pos h3]; intro h; cases h
        · rw [if_neg h3]
          by_cases h4 : (measM (b.drop 1)).rest.length < (measM (b.drop 1)).n
          · rw [if_pos h4]; intro h; cases h
          · rw [if_neg h4]
            intro _
            dsimp only
            have hb : b = b.getD 0 0 :: b.drop 1 := by
              match b, h0 with
              | c :: r, _ => rfl
            have hc8 := (b.getD 0 0).toNat_lt
            have e : UInt8.ofNat (((b.getD 0 0).toNat : Nat) : Int).toNat = b.getD 0 0 := by
              rw [Int.toNat_natCast, UInt8.ofNat_toNat]
            have hl : ((measM (b.drop 1)).rest.take (measM (b.drop 1)).n).length = (measM (b.drop 1)).n := by rw [List.length_take]; omega
            unfold putL
            rw [e, hl, List.cons_append, List.append_assoc, List.take_append_drop, ← hm]
            exact hb
theorem nextR_canon {t : Int} {l : List (List UInt8)} {k : Nat} (ht : t ≠ 0) (h : (nextR t l k).k = 0) : k = 0 ∧ nowL l = putL t (nextR t l k).body ++ (nextM (nowL l)).rest ∧ (nextR t l k).l = l.set (l.length - 1) (nextM (nowL l)).rest ∧ knownM t = true ∧ (nextR t l k).body.length ≤ 65530 ∧ (nextR t l k).is = true := by
  revert h
  unfold nextR
  by_cases h0 : k ≠ 0
  · rw [if_pos h0]; intro h; exact absurd h h0
  · rw [if_neg h0]
    by_cases h1 : (nextM (nowL l)).e ≠ 0
    · rw [if_pos h1]; intro h; exact absurd h h1
    · rw [if_neg h1]
      by_cases h2 : t ≠ 0 ∧ ((nextM (nowL l)).tag : Int) ≠ t
      · rw [if_pos h2]; intro h; cases h
      · rw [if_neg h2]
        intro _
        have h3 := next_canon (b := nowL l) (by omega)
        have e : ((nextM (nowL l)).tag : Int) = t := Classical.byContradiction fun e => h2 ⟨ht, e⟩
        rw [e] at h3
        exact ⟨by omega, h3.1, rfl, h3.2.1, h3.2.2, rfl⟩
theorem oget_canon {b : List UInt8} (h : (ogetM b).2 = 0) : putM (ogetM b).1 = b ∧ (parseM (ogetM b).1).2 = 0 := by
  unfold ogetM at h ⊢
  by_cases h0 : (getA b).2 = 0
  · rw [if_pos h0]
    obtain ⟨h1, h2⟩ := put_get (b := b) (l := (getA b).1) (by rw [← h0])
    have h3 := parse_text h2
    unfold putM
    dsimp only
    rw [h3]
    exact ⟨by rw [if_pos rfl]; exact h1, rfl⟩
  · rw [if_neg h0] at h; exact absurd h h0
end
section
open Go.RowKit Cal
structure Elt (x : List UInt8) (t : Nat) (b : List UInt8) : Prop where
  nx : ∀ r, nextM (x ++ r) = ⟨0, t, b, r⟩
  pos : 0 < x.length
  wh : ∀ lv, lv ≤ 16 → (wholeM lv t b).2 = 0 ∨ (wholeM lv t b).2 = 6
def IsE (x : List UInt8) : Prop := ∃ t b, Elt x t b
structure GoodW (s : W8) : Prop where
  fr : ∀ f ∈ s.fr, madeM f.1 = true ∧ ∀ y ∈ f.2, IsE y
  d : ∃ xs : List (List UInt8), s.d = xs.flatten ∧ ∀ x ∈ xs, IsE x
end
section
open Go.RowKit Cal
def doAll (vs : List VV) (s : W8) : W8 := vs.foldl (fun s v => doW v s) s
def rdoAll (vs : List VV) (r : R8) : R8 := vs.foldl (fun r v => rdoS v r) r
theorem doAll_app (a b : List VV) (s : W8) : doAll (a ++ b) s = doAll b (doAll a s) := by unfold doAll; rw [List.foldl_append]
theorem rdoAll_app (a b : List VV) (r : R8) : rdoAll (a ++ b) r = rdoAll b (rdoAll a r) := by unfold rdoAll; rw [List.foldl_append]
theorem inv_mono {i j : Nat} {r : R8} {s : W8} (h : Inv8 i r s) (hij : i ≤ j) : Inv8 j r s :=
  ⟨h.same, by have := h.w; omega, fun x hx => by have := h.rows x hx; omega, h.n⟩
theorem inv_all : ∀ (vs : List VV) {i : Nat} {r : R8} {s : W8}, Inv8 i r s → (∀ v ∈ vs, SmallV v) → Inv8 (i + vs.length) (rdoAll vs r) (doAll vs s)
  | [], i, r, s, h, _ => h
  | v :: vs, i, r, s, h, hv => by
    have := inv_all vs (inv_do h (hv v List.mem_cons_self)) fun x hx => hv x (List.mem_cons_of_mem _ hx)
    rw [List.length_cons, show i + (vs.length + 1) = i + 1 + vs.length by omega]
    exact this
theorem doW_bad8 {v : VV} {s : W8} (h : s.k ≠ 0) : doW v s = s := by
  have e1 : ∀ e, failW e s = s := fun e => by unfold failW; rw [if_neg h]
  unfold doW openW closeV rawW putW
  simp only [e1, h, ne_eq, not_false_iff, if_true, if_false, ite_self]
theorem rdo_bad {v : VV} {r : R8} (h : r.e ≠ 0) : rdoS v r = r := by unfold rdoS; rw [if_pos h]
theorem rdoAll_bad : ∀ (vs : List VV) {r : R8}, r.e ≠ 0 → rdoAll vs r = r
  | [], r, _ => rfl
  | v :: vs, r, h => by
    show rdoAll vs (rdoS v r) = r
    rw [rdo_bad h]
    exact rdoAll_bad vs h
theorem failW_zero (s : W8) : failW 0 s = s := by
  unfold failW
  split
  · rename_i h; rw [← h]
  · rfl
theorem open_ok {t : Int} {s : W8} (hk : s.k = 0) (ht : madeM t = true) (hl : s.fr.length < 16) : openW t s = ⟨(t, []) :: s.fr, s.d, 0⟩ := by
  unfold openW
  rw [if_neg (by omega), if_neg (by rw [ht]; decide), if_neg (by omega), hk]
theorem put_ok {t : Int} {b : List UInt8} {s : W8} (hk : s.k = 0) (ht : knownM t = true) (hb : b.length ≤ 65530) : putW t b 0 s = addW (putL t b) s := by
  unfold putW
  rw [failW_zero, if_neg (by omega), if_neg (by unfold putE; rw [if_neg (by rw [ht]; decide), if_neg (by omega)]; decide)]
theorem close_ok {t : Int} {ls : List (List UInt8)} {fr : List (Int × List (List UInt8))} {d : List UInt8} (ht : knownM t = true) (h9 : t ≠ 49) (hb : ls.flatten.length ≤ 65530) : closeV ⟨(t, ls) :: fr, d, 0⟩ = addW (putL t ls.flatten) ⟨fr, d, 0⟩ := by
  have hf : bodyF (t, ls) = ls.flatten := by unfold bodyF; rw [if_neg h9]
  show putW t (bodyF (t, ls)) 0 ⟨fr, d, 0⟩ = _
  rw [hf, put_ok rfl ht hb]
def elB (x : Int × List UInt8) : List UInt8 := putL x.1 x.2
structure Lev (d : Nat) (x : Int × List UInt8) : Prop where
  known : knownM x.1 = true
  len : x.2.length ≤ 65530
  wh : ∀ lv, d ≤ lv → (wholeM lv x.1.toNat x.2).2 = 0
theorem Lev.mono {d e : Nat} {x : Int × List UInt8} (h : Lev d x) (hd : d ≤ e) : Lev e x := ⟨h.known, h.len, fun lv hl => h.wh lv (by omega)⟩
theorem lev_plain {t : Int} {b : List UInt8} (hk : knownM t = true) (hm : madeM t = false) (hb : b.length ≤ 65530) : Lev 1 (t, b) :=
  ⟨hk, hb, fun lv _ => by rw [wholeM_not (by rw [Int.toNat_of_nonneg (known_bd hk).1]; exact hm)]⟩
theorem elB_next {x : Int × List UInt8} (hk : knownM x.1 = true) (hb : x.2.length ≤ 65530) (r : List UInt8) : nextM (elB x ++ r) = ⟨0, x.1.toNat, x.2, r⟩ := next_put hk hb
theorem elB_pos (x : Int × List UInt8) : 0 < (elB x).length := by unfold elB putL; simp
theorem loop_els {d lv : Nat} {rec : Nat → List UInt8 → Nat × Nat} (hlv : 1 < lv) : ∀ (xs : List (Int × List UInt8)) (fuel : Nat) (last : List UInt8) (dp : Nat), (∀ x ∈ xs, Lev d x ∧ (rec x.1.toNat x.2).2 = 0) → ((xs.map elB).flatten).length ≤ fuel → (loopW rec false lv fuel (xs.map elB).flatten last dp).2 = 0
  | [], fuel, last, dp, _, _ => by
    show (loopW rec false lv fuel [] last dp).2 = 0
    rw [loopW_nil]
  | x :: xs, fuel, last, dp, hx, hf => by
    obtain ⟨h1, h2⟩ := hx x List.mem_cons_self
    rw [List.map_cons, List.flatten_cons] at hf ⊢
    have hp := elB_pos x
    have hn := elB_next h1.known h1.len (xs.map elB).flatten
    rw [List.length_append] at hf
    cases fuel with
    | zero => omega
    | succ fuel =>
      unfold loopW
      rw [hn]
      dsimp only
      rw [if_neg (by rw [List.length_append]; omega), if_neg (by decide), if_neg (by omega), if_neg (by rw [h2]; decide), if_neg (by simp)]
      exact loop_els hlv xs fuel _ _ (fun y hy => hx y (List.mem_cons_of_mem _ hy)) (by omega)
theorem lev_made {d : Nat} {t : Int} {xs : List (Int × List UInt8)} (hd : 1 ≤ d) (hm : madeM t = true) (h9 : t ≠ 49) (hx : ∀ x ∈ xs, Lev d x) (hl : ((xs.map elB).flatten).length ≤ 65530) : Lev (d + 1) (t, (xs.map elB).flatten) := by
  have hk := made_known hm
  refine ⟨hk, hl, fun lv h => ?_⟩
  obtain ⟨lv, rfl⟩ : ∃ m, lv = m + 1 := ⟨lv - 1, by omega⟩
  have ht : ((t.toNat : Nat) : Int) = t := Int.toNat_of_nonneg (known_bd hk).1
  show (wholeM (lv + 1) t.toNat (xs.map elB).flatten).2 = 0
  unfold wholeM
  rw [ht, if_neg (by rw [hm]; decide)]
  have e : decide (t.toNat = 49) = false := by rw [decide_eq_false_iff_not]; omega
  rw [e]
  exact loop_els (d := d) (by omega) xs _ _ _ (fun x h2 => ⟨hx x h2, (hx x h2).wh lv (by omega)⟩) (Nat.le_refl _)
theorem lev_depth {d : Nat} {x : Int × List UInt8} (h : Lev d x) (hd : d ≤ 16) (hl : (elB x).length ≤ 65536) : (depthM (elB x)).2 = 0 := by
  have hn := elB_next h.known h.len []
  rw [List.append_nil] at hn
  unfold depthM
  rw [hn, if_neg (by omega)]
  dsimp only
  rw [if_neg (by decide), if_neg (by simp)]
  exact h.wh 16 hd
theorem nowL_snoc (ls : List (List UInt8)) (x : List UInt8) : nowL (ls ++ [x]) = x := by unfold nowL; simp
theorem set_snoc (ls : List (List UInt8)) (x y : List UInt8) : (ls ++ [x]).set ((ls ++ [x]).length - 1) y = ls ++ [y] := by simp
theorem nextR_fwd (ls : List (List UInt8)) {t : Int} {b : List UInt8} (r : List UInt8) (hk : knownM t = true) (hb : b.length ≤ 65530) : ∃ tg raw, nextR t (ls ++ [putL t b ++ r]) 0 = ⟨ls ++ [r], 0, tg, b, raw, true⟩ := by
  have hn := next_put (r := r) hk hb
  have h0 := (known_bd hk).1
  unfold nextR
  rw [nowL_snoc, hn, set_snoc, if_neg (by decide), if_neg (by simp), if_neg (by dsimp only; rw [Int.toNat_of_nonneg h0]; simp)]
  exact ⟨_, _, rfl⟩
theorem nextR_back {ls : List (List UInt8)} {x : List UInt8} {t : Int} {k : Nat} (ht : t ≠ 0) (h : (nextR t (ls ++ [x]) k).k = 0) : k = 0 ∧ knownM t = true ∧ ∃ b r tg raw, x = putL t b ++ r ∧ b.length ≤ 65530 ∧ nextR t (ls ++ [x]) k = ⟨ls ++ [r], 0, tg, b, raw, true⟩ := by
  obtain ⟨h1, h2, h3, h4, h5, h6⟩ := nextR_canon ht h
  rw [nowL_snoc] at h2 h3
  rw [set_snoc] at h3
  refine ⟨h1, h4, (nextR t (ls ++ [x]) k).body, (nextM x).rest, (nextR t (ls ++ [x]) k).tag, (nextR t (ls ++ [x]) k).raw, h2, h5, ?_⟩
  rw [← h3]
  conv => rhs; arg 2; rw [← h]
  conv => rhs; arg 6; rw [← h6]
theorem enter_fwd (ls : List (List UInt8)) {t : Int} {b : List UInt8} (r : List UInt8) (hm : madeM t = true) (hb : b.length ≤ 65530) : enterL t (ls ++ [putL t b ++ r]) 0 = ls ++ [r] ++ [b] ∧ (enterR t (ls ++ [putL t b ++ r]) 0).k = 0 ∧ (enterR t (ls ++ [putL t b ++ r]) 0).is = true := by
  obtain ⟨tg, raw, hN⟩ := nextR_fwd ls r (made_known hm) hb
  have hE : enterR t (ls ++ [putL t b ++ r]) 0 = ⟨ls ++ [r], 0, tg, b, raw, true⟩ := by
    unfold enterR
    rw [if_neg (by rintro ⟨_, h⟩; rw [hm] at h; cases h), hN]
  unfold enterL
  rw [hE, if_pos rfl]
  exact ⟨rfl, rfl, rfl⟩
theorem enter_back {ls : List (List UInt8)} {x : List UInt8} {t : Int} {k : Nat} (ht : t ≠ 0) (h : (enterR t (ls ++ [x]) k).k = 0) : k = 0 ∧ ∃ b r, x = putL t b ++ r ∧ b.length ≤ 65530 ∧ enterL t (ls ++ [x]) k = ls ++ [r] ++ [b] ∧ (enterR t (ls ++ [x]) k).is = true := by
  have hc : k = 0 ∧ enterR t (ls ++ [x]) k = nextR t (ls ++ [x]) k := by
    unfold enterR at h ⊢
    by_cases hc : moreM (ls ++ [x]) k = true ∧ madeM t = false
    · rw [if_pos hc] at h
      exact absurd (nextR_back ht h).1 (by decide)
    · rw [if_neg hc] at h ⊢
      exact ⟨(nextR_back ht h).1, rfl⟩
  obtain ⟨hk, hE⟩ := hc
  rw [hE] at h
  obtain ⟨_, _, b, r, tg, raw, h1, h2, h3⟩ := nextR_back ht h
  refine ⟨hk, b, r, h1, h2, ?_, ?_⟩
  · unfold enterL
    rw [hE, h3, if_pos rfl]
  · rw [hE, h3]
theorem read_enter (a : AA) (ha : a.kind = 1) (l : List (List UInt8)) (k : Nat) : (readR a l k).l = enterL a.tag l k ∧ (readR a l k).k = (enterR a.tag l k).k := by unfold readR; rw [if_pos ha]; exact ⟨rfl, rfl⟩
theorem read_leave (a : AA) (ha : a.kind = 2) (l : List (List UInt8)) (k : Nat) : (readR a l k).l = leaveL l k ∧ (readR a l k).k = leaveK l k := by unfold readR; rw [if_neg (by omega), if_pos ha]; exact ⟨rfl, rfl⟩
theorem leave_fwd {ls : List (List UInt8)} (h : 0 < ls.length) : leaveL (ls ++ [[]]) 0 = ls ∧ leaveK (ls ++ [[]]) 0 = 0 := by
  have hk : leaveK (ls ++ [[]]) 0 = 0 := by
    unfold leaveK
    rw [if_neg (by decide), if_neg (by rw [List.length_append, List.length_singleton]; omega), nowL_snoc, if_neg (by decide)]
  unfold leaveL
  rw [hk, if_pos rfl]
  exact ⟨by simp, rfl⟩
theorem leave_back {ls : List (List UInt8)} {x : List UInt8} {k : Nat} (h : leaveK (ls ++ [x]) k = 0) : k = 0 ∧ x = [] ∧ 0 < ls.length ∧ leaveL (ls ++ [x]) k = ls := by
  have h0 := h
  unfold leaveK at h
  by_cases h1 : k ≠ 0
  · rw [if_pos h1] at h; exact absurd h h1
  · rw [if_neg h1] at h
    by_cases h2 : (ls ++ [x]).length = 1
    · rw [if_pos h2] at h; cases h
    · rw [if_neg h2, nowL_snoc] at h
      by_cases h3 : 0 < x.length
      · rw [if_pos h3] at h; cases h
      · refine ⟨by omega, List.eq_nil_of_length_eq_zero (by omega), by rw [List.length_append, List.length_singleton] at h2; omega, ?_⟩
        unfold leaveL
        rw [h0, if_pos rfl]
        simp
theorem read_fwd (a : AA) (ls : List (List UInt8)) {b : List UInt8} (r : List UInt8) (ha : 3 ≤ a.kind ∧ a.kind ≤ 10) (hb : b.length ≤ 65530) (h : (saidM a b).2 = 0) : readR a (ls ++ [putL (tagA a) b ++ r]) 0 = ⟨ls ++ [r], 0, (saidM a b).1⟩ := by
  have hk : knownM (tagA a) = true := by
    unfold tagA
    repeat' split
    all_goals decide
  obtain ⟨tg, raw, hN⟩ := nextR_fwd ls r hk hb
  unfold readR readV valK
  rw [if_neg (by omega), if_neg (by omega), if_neg (by omega), hN]
  dsimp only
  rw [if_pos rfl, if_pos ⟨rfl, h⟩, h]
theorem read_back {a : AA} {ls : List (List UInt8)} {x : List UInt8} {k : Nat} (ha : 3 ≤ a.kind ∧ a.kind ≤ 10) (h : (readR a (ls ++ [x]) k).k = 0) : k = 0 ∧ ∃ b r, x = putL (tagA a) b ++ r ∧ b.length ≤ 65530 ∧ (saidM a b).2 = 0 ∧ readR a (ls ++ [x]) k = ⟨ls ++ [r], 0, (saidM a b).1⟩ := by
  have ht : tagA a ≠ 0 := by
    unfold tagA
    repeat' split
    all_goals decide
  have e : readR a (ls ++ [x]) k = readV (tagA a) (saidM a) (ls ++ [x]) k := by unfold readR; rw [if_neg (by omega), if_neg (by omega), if_neg (by omega)]
  have hn : (nextR (tagA a) (ls ++ [x]) k).k = 0 := by
    rw [e] at h
    unfold readV valK at h
    dsimp only at h
    by_cases hi : (nextR (tagA a) (ls ++ [x]) k).is = true
    · exact (next_mu (by simp)).2.2.2.2.1.1 hi
    · rw [if_neg hi] at h; exact h
  obtain ⟨h1, h2, b, r, tg, raw, h3, h4, h5⟩ := nextR_back ht hn
  rw [e] at h ⊢
  unfold readV valK at h ⊢
  rw [h5] at h ⊢
  dsimp only at h ⊢
  rw [if_pos rfl] at h
  exact ⟨h1, b, r, h3, h4, h, by rw [if_pos rfl, if_pos ⟨rfl, h⟩, h]⟩
end
section
open Go.RowKit Cal
structure StepFB {α : Type} (sp : StepR α) (enc : α → List UInt8) (good : α → Prop) : Prop where
  fwd : ∀ (ls : List (List UInt8)) a r, good a → sp (ls ++ [enc a ++ r]) 0 = ((ls ++ [r], 0), a)
  back : ∀ (ls : List (List UInt8)) x k, (sp (ls ++ [x]) k).1.2 = 0 → k = 0 ∧ ∃ a r, good a ∧ x = enc a ++ r ∧ sp (ls ++ [x]) k = ((ls ++ [r], 0), a)
  pos : ∀ a, good a → 0 < (enc a).length
section
variable {α : Type} {sp : StepR α} {enc : α → List UInt8} {good : α → Prop}
theorem st_fwd (h : StepFB sp enc good) (ls : List (List UInt8)) : ∀ (xs : List α) (j : Nat), (∀ a ∈ xs, good a) → j ≤ xs.length → stG sp (ls ++ [(xs.map enc).flatten]) 0 j = ((ls ++ [((xs.drop j).map enc).flatten], 0), xs.take j)
  | xs, 0, _, _ => by simp [stG]
  | xs, j + 1, hg, hj => by
    have ih := st_fwd h ls xs j hg (by omega)
    have e : ((xs.drop j).map enc).flatten = enc xs[j] ++ ((xs.drop (j + 1)).map enc).flatten := by
      rw [List.drop_eq_getElem_cons (show j < xs.length by omega), List.map_cons, List.flatten_cons]
    have h2 := h.fwd ls xs[j] ((xs.drop (j + 1)).map enc).flatten (hg _ (List.getElem_mem _))
    unfold stG
    rw [ih]
    dsimp only
    rw [e, h2]
    dsimp only
    rw [← List.take_succ_eq_append_getElem (show j < xs.length by omega)]
theorem row_fwd (ok : StepOk sp) (h : StepFB sp enc good) {tag most : Int} (ls : List (List UInt8)) {xs : List α} (r : List UInt8) (hm : madeM tag = true) (hg : ∀ a ∈ xs, good a) (hl : (xs.length : Int) ≤ most) (hb : ((xs.map enc).flatten).length ≤ 65530) :
    endG sp (enterL tag (ls ++ [putL tag (xs.map enc).flatten ++ r]) 0) (enterR tag (ls ++ [putL tag (xs.map enc).flatten ++ r]) 0).k most = (ls ++ [r], 0) ∧
    (stG sp (enterL tag (ls ++ [putL tag (xs.map enc).flatten ++ r]) 0) (enterR tag (ls ++ [putL tag (xs.map enc).flatten ++ r]) 0).k (jG sp (enterL tag (ls ++ [putL tag (xs.map enc).flatten ++ r]) 0) (enterR tag (ls ++ [putL tag (xs.map enc).flatten ++ r]) 0).k most)).2 = xs := by
  obtain ⟨e1, e2, e3⟩ := enter_fwd ls r hm hb
  rw [e1, e2]
  have hst := fun j hj => st_fwd h (ls ++ [r]) xs j hg hj
  have hJ : jG sp (ls ++ [r] ++ [(xs.map enc).flatten]) 0 most = xs.length := by
    refine jG_one ok (by simp) (fun i hi => ?_) ?_
    · unfold goB
      rw [hst i (by omega)]
      dsimp only
      unfold moreM
      rw [nowL_snoc]
      have hd : ((xs.drop i).map enc).flatten = enc xs[i] ++ ((xs.drop (i + 1)).map enc).flatten := by
        rw [List.drop_eq_getElem_cons (show i < xs.length by omega), List.map_cons, List.flatten_cons]
      have hp := h.pos xs[i] (hg _ (List.getElem_mem _))
      rw [hd]
      simp only [List.length_append, Bool.and_eq_true, decide_eq_true_eq]
      refine ⟨⟨trivial, ?_⟩, ?_⟩
      · omega
      · omega
    · unfold goB
      rw [hst _ (Nat.le_refl _)]
      dsimp only
      unfold moreM
      rw [nowL_snoc, List.drop_length]
      simp
  have hs := hst _ (Nat.le_refl _)
  rw [List.drop_length, List.take_length] at hs
  have hs' : stG sp (ls ++ [r] ++ [(xs.map enc).flatten]) 0 xs.length = ((ls ++ [r] ++ [[]], 0), xs) := hs
  have hlv := leave_fwd (ls := ls ++ [r]) (by simp)
  refine ⟨?_, ?_⟩
  · unfold endG
    rw [hJ, hs']
    dsimp only
    rw [if_neg (by unfold moreM; rw [nowL_snoc]; simp), hlv.1, hlv.2]
  · rw [hJ, hs']
end
end
section
open Go.RowKit Cal
def v8 (t : List UInt8) : VV := ⟨8, 0, false, [], t⟩
def v7 (t : List UInt8) (most : Int) : VV := ⟨7, most, false, [], t⟩
def w1 (tag : Int) : VV := ⟨1, tag, false, [], []⟩
def w2 : VV := ⟨2, 0, false, [], []⟩
def pv (p : P2) : List VV := [w1 48, v8 p.1, v7 p.2 64, w2]
def namesV (s : S3) : List VV := w1 48 :: ((partsS s).flatMap pv ++ [w2])
def putS (s : S3) (w : W8) : W8 := if rightS s = true then doAll (namesV s) w else failW 9 w
def rputS9 (s : S3) (r : R8) : R8 := if rightS s = true then rdoAll (namesV s) r else ⟨r.tags, r.rows, if r.e = 0 then 9 else r.e⟩
theorem do_w1 (tag : Int) (s : W8) : doW (w1 tag) s = openW tag s := by unfold doW; rw [if_pos (show (w1 tag).kind = 1 from rfl)]; rfl
theorem do_w2 (s : W8) : doW w2 s = closeV s := by unfold doW; rw [if_neg (show ¬ w2.kind = 1 by decide), if_pos (show w2.kind = 2 from rfl)]
theorem do_v8 (t : List UInt8) (s : W8) : doW (v8 t) s = putW 6 (putM t) (parseM t).2 s := by
  unfold doW
  rw [if_neg (show ¬ (v8 t).kind = 1 by show ¬ (8 : Int) = 1; decide), if_neg (show ¬ (v8 t).kind = 2 by show ¬ (8 : Int) = 2; decide), if_neg (show ¬ (v8 t).kind = 11 by show ¬ (8 : Int) = 11; decide)]
  rfl
theorem do_v7 (t : List UInt8) (m : Int) (s : W8) : doW (v7 t m) s = putW 12 (if askedM t m = 0 then t else []) (askedM t m) s := by
  unfold doW
  rw [if_neg (show ¬ (v7 t m).kind = 1 by show ¬ (7 : Int) = 1; decide), if_neg (show ¬ (v7 t m).kind = 2 by show ¬ (7 : Int) = 2; decide), if_neg (show ¬ (v7 t m).kind = 11 by show ¬ (7 : Int) = 11; decide)]
  rfl
theorem lab_ascii {l : List UInt8} (h : labM l = true) : (∀ c ∈ l, 32 ≤ c.toNat ∧ c.toNat < 127) ∧ l ≠ [] ∧ l.length ≤ 24 := by
  simp only [labM, Bool.and_eq_true, decide_eq_true_eq, List.all_eq_true] at h
  obtain ⟨⟨⟨⟨h1, h2⟩, _⟩, _⟩, h5⟩ := h
  refine ⟨fun c hc => ?_, h1, h2⟩
  have := h5 c hc
  simp only [lch, Bool.or_eq_true, Bool.and_eq_true, decide_eq_true_eq] at this
  omega
theorem plain_ascii : ∀ {l : List UInt8}, (∀ c ∈ l, 32 ≤ c.toNat ∧ c.toNat < 127) → plainM l = true
  | [], _ => rfl
  | c :: l, h => by
    have hc := h c List.mem_cons_self
    have e : bt (c :: l) 0 = c.toNat := rfl
    rw [ref_ascii (by simp) (by rw [e]; omega), e, if_neg (by omega)]
    exact plain_ascii fun d hd => h d (List.mem_cons_of_mem _ hd)
theorem asked_ascii {l : List UInt8} {m : Int} (h : ∀ c ∈ l, 32 ≤ c.toNat ∧ c.toNat < 127) (h0 : l ≠ []) (hm : (l.length : Int) ≤ m) : askedM l m = 0 := by
  have hp := List.length_pos_iff.2 h0
  unfold askedM
  rw [if_neg (by omega), if_neg (by omega), if_neg (by rw [plain_ascii h]; decide)]
theorem asked_len {l : List UInt8} {m : Int} (h : askedM l m = 0) : (l.length : Int) ≤ m := by
  unfold askedM at h
  by_cases h0 : l.length = 0
  · rw [if_pos h0] at h; cases h
  · rw [if_neg h0] at h
    by_cases h1 : m < l.length
    · rw [if_pos h1] at h; cases h
    · omega
def GoodP (p : P2) : Prop := (parseM p.1).2 = 0 ∧ askedM p.2 64 = 0
def innerX (p : P2) : List (Int × List UInt8) := [(6, putM p.1), (12, p.2)]
def partX (p : P2) : Int × List UInt8 := (48, ((innerX p).map elB).flatten)
def partB (p : P2) : List UInt8 := elB (partX p)
def subX (s : S3) : Int × List UInt8 := (48, (((partsS s).map partX).map elB).flatten)
def subB (s : S3) : List UInt8 := elB (subX s)
theorem oids_good : (parseM oidK).2 = 0 ∧ (parseM oidS).2 = 0 ∧ (parseM oidN).2 = 0 := by decide +kernel
theorem word_ascii {k : Int} (h1 : 1 ≤ k) (h5 : k ≤ 5) : (∀ c ∈ wordM k, 32 ≤ c.toNat ∧ c.toNat < 127) ∧ wordM k ≠ [] ∧ (wordM k).length ≤ 8 := by
  obtain rfl | rfl | rfl | rfl | rfl := kinds h1 h5 <;> decide
theorem good_parts {s : S3} (h : rightS s = true) : (∀ p ∈ partsS s, GoodP p ∧ p.1.length = 12 ∧ p.2.length ≤ 24) ∧ (partsS s).length ≤ 3 := by
  obtain ⟨h1, h5, hn, h2, hs⟩ := (right_iff s).1 h
  have hw := word_ascii h1 h5
  have hn' := lab_ascii hn
  have gk : GoodP (oidK, wordM s.1) ∧ (oidK, wordM s.1).1.length = 12 ∧ (oidK, wordM s.1).2.length ≤ 24 := ⟨⟨oids_good.1, asked_ascii hw.1 hw.2.1 (by have := hw.2.2; show ((wordM s.1).length : Int) ≤ 64; omega)⟩, rfl, by have := hw.2.2; dsimp only; omega⟩
  have gn : GoodP (oidN, s.2.2) ∧ (oidN, s.2.2).1.length = 12 ∧ (oidN, s.2.2).2.length ≤ 24 := ⟨⟨oids_good.2.2, asked_ascii hn'.1 hn'.2.1 (by have := hn'.2.2; show (s.2.2.length : Int) ≤ 64; omega)⟩, rfl, hn'.2.2⟩
  rw [parts_ref h]
  by_cases hk : s.1 = 2
  · have hsp := lab_ascii (h2 hk)
    have gs : GoodP (oidS, s.2.1) ∧ (oidS, s.2.1).1.length = 12 ∧ (oidS, s.2.1).2.length ≤ 24 := ⟨⟨oids_good.2.1, asked_ascii hsp.1 hsp.2.1 (by have := hsp.2.2; show (s.2.1.length : Int) ≤ 64; omega)⟩, rfl, hsp.2.2⟩
    rw [if_pos hk]
    refine ⟨fun p hp => ?_, by simp⟩
    rcases List.mem_cons.1 hp with rfl | hp
    · exact gk
    · rcases List.mem_cons.1 hp with rfl | hp
      · exact gs
      · rw [List.mem_singleton.1 hp]; exact gn
  · rw [if_neg hk]
    refine ⟨fun p hp => ?_, by simp⟩
    rcases List.mem_cons.1 hp with rfl | hp
    · exact gk
    · rw [List.mem_singleton.1 hp]; exact gn
theorem part9_len {p : P2} (h : GoodP p) (h1 : p.1.length ≤ 300) : (((innerX p).map elB).flatten).length ≤ 1000 ∧ (putM p.1).length ≤ 600 ∧ p.2.length ≤ 64 := by
  have h2 := put_len p.1
  have h3 := asked_len h.2
  have h4 := putL_len 6 (putM p.1)
  have h5 := putL_len 12 p.2
  simp only [innerX, elB, List.map_cons, List.map_nil, List.flatten_cons, List.flatten_nil, List.append_nil, List.length_append]
  omega
theorem addW_in (b : List UInt8) {t : Int} {ls : List (List UInt8)} {fr : List (Int × List (List UInt8))} {d : List UInt8} : addW b ⟨(t, ls) :: fr, d, 0⟩ = ⟨(t, ls ++ [b]) :: fr, d, 0⟩ := rfl
theorem do_part {p : P2} (h : GoodP p) (h1 : p.1.length ≤ 300) {s : W8} (hk : s.k = 0) (hf : s.fr.length < 16) : doAll (pv p) s = addW (partB p) s := by
  obtain ⟨l1, l2, l3⟩ := part9_len h h1
  obtain ⟨fr, d, k⟩ := s
  simp only at hk hf
  subst hk
  show doW w2 (doW (v7 p.2 64) (doW (v8 p.1) (doW (w1 48) ⟨fr, d, 0⟩))) = _
  rw [do_w1, open_ok rfl (by decide) hf, do_v8, h.1, put_ok rfl (by decide) (by omega), addW_in, do_v7, h.2, if_pos rfl, put_ok rfl (by decide) (by omega), addW_in, do_w2]
  have e : ([] ++ [putL 6 (putM p.1)] ++ [putL 12 p.2] : List (List UInt8)).flatten = ((innerX p).map elB).flatten := rfl
  rw [close_ok (by decide) (by decide) (by rw [e]; omega), e]
  rfl
theorem do_parts : ∀ (ps : List P2) {ls : List (List UInt8)} {fr : List (Int × List (List UInt8))} {d : List UInt8}, (∀ p ∈ ps, GoodP p ∧ p.1.length ≤ 300) → fr.length < 15 → doAll (ps.flatMap pv) ⟨(48, ls) :: fr, d, 0⟩ = ⟨(48, ls ++ ps.map partB) :: fr, d, 0⟩
  | [], ls, fr, d, _, _ => by simp [doAll]
  | p :: ps, ls, fr, d, h, hf => by
    rw [List.flatMap_cons, doAll_app, do_part (h p List.mem_cons_self).1 (h p List.mem_cons_self).2 rfl (by simp only [List.length_cons]; omega), addW_in, do_parts ps (fun q hq => h q (List.mem_cons_of_mem _ hq)) hf]
    simp
theorem sub_len {s : S3} (h : rightS s = true) : (((partsS s).map partX).map elB).flatten.length ≤ 4000 ∧ (subB s).length ≤ 4100 := by
  obtain ⟨h1, h2⟩ := good_parts h
  have key : ∀ ps : List P2, (∀ p ∈ ps, GoodP p ∧ p.1.length = 12 ∧ p.2.length ≤ 24) → ((ps.map partX).map elB).flatten.length ≤ 1010 * ps.length := fun ps => by
    induction ps with
    | nil => intro _; simp
    | cons p ps ih =>
      intro h
      have h3 := ih fun q hq => h q (List.mem_cons_of_mem _ hq)
      obtain ⟨h4, h5, _⟩ := h p List.mem_cons_self
      have h6 := part9_len h4 (by omega)
      have h7 := putL_len 48 ((innerX p).map elB).flatten
      have h8 : (elB (partX p)).length = (putL 48 ((innerX p).map elB).flatten).length := rfl
      simp only [List.map_cons, List.flatten_cons, List.length_append, List.length_cons]
      omega
  have h3 := key _ h1
  have h4 := putL_len 48 (((partsS s).map partX).map elB).flatten
  have h5 : (subB s).length = (putL 48 (((partsS s).map partX).map elB).flatten).length := rfl
  omega
theorem putS_ok {s : S3} (h : rightS s = true) {w : W8} (hk : w.k = 0) (hf : w.fr.length < 15) : putS s w = addW (subB s) w := by
  obtain ⟨h1, h2⟩ := good_parts h
  obtain ⟨l1, l2⟩ := sub_len h
  obtain ⟨fr, d, k⟩ := w
  simp only at hk hf
  subst hk
  unfold putS
  rw [if_pos h]
  show doAll ((partsS s).flatMap pv ++ [w2]) (doW (w1 48) ⟨fr, d, 0⟩) = _
  rw [do_w1, open_ok rfl (by decide) (by dsimp only; omega), doAll_app, do_parts _ (fun p hp => ⟨(h1 p hp).1, by have := (h1 p hp).2.1; omega⟩) hf]
  rw [show ∀ X, doAll [w2] X = doW w2 X from fun _ => rfl, do_w2]
  have e : ([] ++ (partsS s).map partB : List (List UInt8)).flatten = (((partsS s).map partX).map elB).flatten := by rw [List.nil_append, List.map_map]; rfl
  rw [close_ok (by decide) (by decide) (by rw [e]; omega), e]
  rfl
def w00 : W8 := ⟨[], [], 0⟩
theorem putS_new {s : S3} (h : rightS s = true) : doneK (putS s w00) = 0 ∧ doneB (putS s w00) = subB s := by
  have e : putS s w00 = ⟨[], subB s, 0⟩ := by rw [putS_ok h rfl (by decide)]; rfl
  have hl := (sub_len h).2
  have hk : doneK (⟨[], subB s, 0⟩ : W8) = 0 := by
    unfold doneK
    rw [if_neg (by simp), if_neg (by simp), if_neg (by dsimp only; omega)]
  rw [e]
  refine ⟨hk, ?_⟩
  unfold doneB
  rw [if_pos hk]
theorem putS_not {s : S3} (h : rightS s = false) : doneK (putS s w00) = 9 ∧ doneB (putS s w00) = [] := by
  have e : putS s w00 = ⟨[], [], 9⟩ := by unfold putS; rw [if_neg (by rw [h]; decide)]; rfl
  rw [e]
  exact ⟨rfl, rfl⟩
theorem small_w1 {t : Int} (h : -9223372036854775808 ≤ t ∧ t ≤ 9223372036854775807) : SmallV (w1 t) := ⟨h, by simp [w1], by simp [w1]⟩
theorem small_w2 : SmallV w2 := ⟨by simp [w2], by simp [w2], by simp [w2]⟩
theorem small_v8 {t : List UInt8} (h : t.length ≤ 300) : SmallV (v8 t) := ⟨by simp [v8], by simp [v8], h⟩
theorem small_v7 {t : List UInt8} (h : t.length ≤ 300) : SmallV (v7 t 64) := ⟨by simp [v7], by simp [v7], h⟩
theorem small_pv {p : P2} (h1 : p.1.length ≤ 300) (h2 : p.2.length ≤ 300) : ∀ v ∈ pv p, SmallV v := fun v hv => by
  simp only [pv, List.mem_cons, List.not_mem_nil, or_false] at hv
  rcases hv with rfl | rfl | rfl | rfl
  · exact small_w1 (by decide)
  · exact small_v8 h1
  · exact small_v7 h2
  · exact small_w2
theorem pvs_len : ∀ ps : List P2, (ps.flatMap pv).length = 4 * ps.length
  | [] => rfl
  | p :: ps => by
    rw [List.flatMap_cons, List.length_append, pvs_len ps, List.length_cons]
    show 4 + _ = _
    omega
theorem inv_putS {i : Nat} {r : R8} {w : W8} (hI : Inv8 i r w) (s : S3) : Inv8 (i + 14) (rputS9 s r) (putS s w) := by
  unfold rputS9 putS
  by_cases h : rightS s = true
  · rw [if_pos h, if_pos h]
    obtain ⟨h1, h2⟩ := good_parts h
    have hl : (namesV s).length ≤ 14 := by
      unfold namesV
      rw [List.length_cons, List.length_append, pvs_len]
      simp only [List.length_singleton]
      omega
    refine inv_mono (inv_all (namesV s) hI fun v hv => ?_) (by omega)
    unfold namesV at hv
    rcases List.mem_cons.1 hv with rfl | hv
    · exact small_w1 (by decide)
    · rcases List.mem_append.1 hv with hv | hv
      · obtain ⟨p, hp, hv⟩ := List.mem_flatMap.1 hv
        obtain ⟨_, h3, h4⟩ := h1 p hp
        exact small_pv (by omega) (by omega) v hv
      · rw [List.mem_singleton.1 hv]; exact small_w2
  · rw [if_neg h, if_neg h]
    exact inv_mono (inv_fail hI 9) (by omega)
def aL : AA := ⟨1, 48, 0, 0⟩
def aO : AA := ⟨8, 0, 0, 0⟩
def aT : AA := ⟨7, 0, 0, 64⟩
def aE : AA := ⟨2, 0, 0, 0⟩
def partSp : StepR P2 := fun l k =>
  let r1 := readR aL l k
  let r2 := readR aO r1.l r1.k
  let r3 := readR aT r2.l r2.k
  let r4 := readR aE r3.l r3.k
  ((r4.l, r4.k), (r2.v.t, r3.v.t))
theorem said_O (b : List UInt8) : saidM aO b = (vT (ogetM b).1, (ogetM b).2) := rfl
theorem said_T (b : List UInt8) : saidM aT b = (vT (if askedM b 64 = 0 then b else []), askedM b 64) := rfl
theorem part_ok : StepOk partSp := by
  have key : ∀ l k, 0 < l.length → moreM l k = true → muS (partSp l k).1.1 (partSp l k).1.2 < muS l k ∧ ((partSp l k).1.2 = 0 → (partSp l k).1.1.length = l.length) ∧ l.length ≤ (partSp l k).1.1.length ∧ (partSp l k).1.1.length ≤ l.length + 16 := by
    intro l k hl hm
    have hk := (more_pos hm).1
    obtain ⟨a1, a2, a3, a4, a5, a6, a7⟩ := read_mu aL (l := l) (k := k) hl
    have a3' := a3 hk (by decide)
    obtain ⟨a41, a42⟩ := a4 rfl
    have p1 : l.length ≤ (readR aL l k).l.length ∧ (readR aL l k).l.length ≤ l.length + 1 := by
      by_cases h : (readR aL l k).k = 0
      · have := a41 h; omega
      · have := a42 h; omega
    obtain ⟨b1, b2, b3, b4, b5, b6, b7⟩ := read_mu aO (l := (readR aL l k).l) (k := (readR aL l k).k) (by omega)
    have b6' := b6 (by decide) (by decide)
    obtain ⟨c1, c2, c3, c4, c5, c6, c7⟩ := read_mu aT (l := (readR aO (readR aL l k).l (readR aL l k).k).l) (k := (readR aO (readR aL l k).l (readR aL l k).k).k) (by omega)
    have c6' := c6 (by decide) (by decide)
    obtain ⟨d1, d2, d3, d4, d5, d6, d7⟩ := read_mu aE (l := (readR aT (readR aO (readR aL l k).l (readR aL l k).k).l (readR aO (readR aL l k).l (readR aL l k).k).k).l) (k := (readR aT (readR aO (readR aL l k).l (readR aL l k).k).l (readR aO (readR aL l k).l (readR aL l k).k).k).k) (by omega)
    obtain ⟨d51, d52⟩ := d5 rfl
    show muS (readR aE _ _).l (readR aE _ _).k < _ ∧ ((readR aE _ _).k = 0 → (readR aE _ _).l.length = _) ∧ _ ≤ (readR aE _ _).l.length ∧ (readR aE _ _).l.length ≤ _
    refine ⟨by omega, fun h => ?_, ?_, ?_⟩
    · have := d51 h
      have := a41 (b7 (c7 (d7 h)))
      omega
    · by_cases h : (readR aE (readR aT (readR aO (readR aL l k).l (readR aL l k).k).l (readR aO (readR aL l k).l (readR aL l k).k).k).l (readR aT (readR aO (readR aL l k).l (readR aL l k).k).l (readR aO (readR aL l k).l (readR aL l k).k).k).k).k = 0
      · have := d51 h
        have := a41 (b7 (c7 (d7 h)))
        omega
      · have := d52 h; omega
    · by_cases h : (readR aE (readR aT (readR aO (readR aL l k).l (readR aL l k).k).l (readR aO (readR aL l k).l (readR aL l k).k).k).l (readR aT (readR aO (readR aL l k).l (readR aL l k).k).l (readR aO (readR aL l k).l (readR aL l k).k).k).k).k = 0
      · have := d51 h; omega
      · have := d52 h; omega
  exact ⟨fun l k h1 h2 => (key l k h1 h2).1, fun l k h1 h2 => (key l k h1 h2).2.1, fun l k h1 h2 => (key l k h1 h2).2.2⟩
theorem part_body (p : P2) : ((innerX p).map elB).flatten = putL 6 (putM p.1) ++ (putL 12 p.2 ++ []) := by simp [innerX, elB]
def GoodR (p : P2) : Prop := GoodP p ∧ (putM p.1).length ≤ 65530 ∧ (((innerX p).map elB).flatten).length ≤ 65530
theorem part_fb : StepFB partSp partB GoodR := by
  refine ⟨fun ls p r h => ?_, fun ls x k h => ?_, fun p _ => elB_pos _⟩
  · obtain ⟨⟨h1, h2⟩, h3, h4⟩ := h
    have h5 := asked_len h2
    obtain ⟨e1, e2, _⟩ := enter_fwd ls (t := 48) (b := ((innerX p).map elB).flatten) r (by decide) h4
    obtain ⟨f1, f2⟩ := read_enter aL rfl (ls ++ [partB p ++ r]) 0
    have g1 : (readR aL (ls ++ [partB p ++ r]) 0).l = ls ++ [r] ++ [putL 6 (putM p.1) ++ (putL 12 p.2 ++ [])] := by rw [f1, ← part_body]; exact e1
    have g2 : (readR aL (ls ++ [partB p ++ r]) 0).k = 0 := f2.trans e2
    have hpm : putM p.1 = putA (parseM p.1).1 := by unfold putM; rw [if_pos h1]
    have hO : saidM aO (putM p.1) = (vT p.1, 0) := by rw [said_O, hpm, get_of_put h1]
    have hT : saidM aT p.2 = (vT p.2, 0) := by rw [said_T, h2, if_pos rfl]
    have g3 := read_fwd aO (ls ++ [r]) (b := putM p.1) (putL 12 p.2 ++ []) (by decide) h3 (by rw [hO])
    have g4 := read_fwd aT (ls ++ [r]) (b := p.2) [] (by decide) (by omega) (by rw [hT])
    have g5 := leave_fwd (ls := ls ++ [r]) (by simp)
    obtain ⟨g6, g7⟩ := read_leave aE rfl (ls ++ [r] ++ [[]]) 0
    have tO : tagA aO = 6 := rfl
    have tT : tagA aT = 12 := rfl
    rw [tO] at g3
    rw [tT] at g4
    unfold partSp
    dsimp only
    rw [g1, g2, g3]
    dsimp only
    rw [g4]
    dsimp only
    rw [g6, g7, g5.1, g5.2, hO, hT]
    rfl
  · have hk4 : (readR aE (readR aT (readR aO (readR aL (ls ++ [x]) k).l (readR aL (ls ++ [x]) k).k).l (readR aO (readR aL (ls ++ [x]) k).l (readR aL (ls ++ [x]) k).k).k).l (readR aT (readR aO (readR aL (ls ++ [x]) k).l (readR aL (ls ++ [x]) k).k).l (readR aO (readR aL (ls ++ [x]) k).l (readR aL (ls ++ [x]) k).k).k).k).k = 0 := h
    have len1 : 0 < (readR aL (ls ++ [x]) k).l.length := by
      obtain ⟨a1, a2, a3, a4, _⟩ := read_mu aL (l := ls ++ [x]) (k := k) (by simp)
      obtain ⟨a41, a42⟩ := a4 rfl
      by_cases h : (readR aL (ls ++ [x]) k).k = 0
      · rw [a41 h]; omega
      · rw [a42 h]; simp
    obtain ⟨_, _, _, _, _, b6, b7⟩ := read_mu aO (l := (readR aL (ls ++ [x]) k).l) (k := (readR aL (ls ++ [x]) k).k) len1
    have b6' := b6 (by decide) (by decide)
    obtain ⟨_, _, _, _, _, c6, c7⟩ := read_mu aT (l := (readR aO (readR aL (ls ++ [x]) k).l (readR aL (ls ++ [x]) k).k).l) (k := (readR aO (readR aL (ls ++ [x]) k).l (readR aL (ls ++ [x]) k).k).k) (by omega)
    have c6' := c6 (by decide) (by decide)
    obtain ⟨_, _, _, _, _, _, d7⟩ := read_mu aE (l := (readR aT (readR aO (readR aL (ls ++ [x]) k).l (readR aL (ls ++ [x]) k).k).l (readR aO (readR aL (ls ++ [x]) k).l (readR aL (ls ++ [x]) k).k).k).l) (k := (readR aT (readR aO (readR aL (ls ++ [x]) k).l (readR aL (ls ++ [x]) k).k).l (readR aO (readR aL (ls ++ [x]) k).l (readR aL (ls ++ [x]) k).k).k).k) (by omega)
    have hk3 := d7 hk4
    have hk2 := c7 hk3
    have hk1 := b7 hk2
    obtain ⟨f1, f2⟩ := read_enter aL rfl (ls ++ [x]) k
    obtain ⟨hk0, b, r, e1, e2, e3, e4⟩ := enter_back (t := 48) (by decide) (show (enterR 48 (ls ++ [x]) k).k = 0 from f2.symm.trans hk1)
    have g1 : (readR aL (ls ++ [x]) k).l = ls ++ [r] ++ [b] := f1.trans e3
    rw [g1, hk1] at hk2 hk3 hk4
    obtain ⟨_, o, r2, o1, o2, o3, o4⟩ := read_back (a := aO) (by decide) hk2
    rw [o4] at hk3 hk4
    obtain ⟨_, t, r3, t1, t2, t3, t4⟩ := read_back (a := aT) (by decide) hk3
    rw [t4] at hk4
    obtain ⟨f3, f4⟩ := read_leave aE rfl (ls ++ [r] ++ [r3]) 0
    dsimp only at hk4
    rw [f4] at hk4
    obtain ⟨_, u1, u2, u3⟩ := leave_back hk4
    subst u1
    have o3' : (ogetM o).2 = 0 := o3
    have t3' : askedM t 64 = 0 := t3
    obtain ⟨q1, q2⟩ := oget_canon o3'
    have hO : (saidM aO o).1.t = (ogetM o).1 := rfl
    have hT : (saidM aT t).1.t = t := by rw [said_T]; show (if askedM t 64 = 0 then t else []) = t; rw [if_pos t3']
    have hb : b = ((innerX ((ogetM o).1, t)).map elB).flatten := by
      rw [part_body, o1, t1]
      show putL 6 o ++ (putL 12 t ++ []) = putL 6 (putM (ogetM o).1) ++ _
      rw [q1]
    refine ⟨hk0, ((ogetM o).1, t), r, ⟨⟨q2, t3'⟩, by rw [q1]; exact o2, by rw [← hb]; exact e2⟩, ?_, ?_⟩
    · rw [e1, hb]; rfl
    · unfold partSp
      dsimp only
      rw [g1, hk1, o4]
      dsimp only
      rw [t4]
      dsimp only
      rw [f3, f4, u3, hk4, hO, hT]
def endP (l : List (List UInt8)) (k : Nat) : List (List UInt8) × Nat := endG partSp (enterL 48 l k) (enterR 48 l k).k 8
def listP (l : List (List UInt8)) (k : Nat) : List P2 := (stG partSp (enterL 48 l k) (enterR 48 l k).k (jG partSp (enterL 48 l k) (enterR 48 l k).k 8)).2
def getS (l : List (List UInt8)) (k : Nat) : (List (List UInt8) × Nat) × S3 :=
  if (endP l k).2 ≠ 0 then (endP l k, zeroS) else (((endP l k).1, (ofP (listP l k)).2), (ofP (listP l k)).1)
def readS (b : List UInt8) : S3 × Nat :=
  let g := getS [b] (depthM b).2
  if endK g.1.1 g.1.2 ≠ 0 then (zeroS, endK g.1.1 g.1.2) else (g.2, 0)
theorem parts_enc (s : S3) : ((partsS s).map partB).flatten = (((partsS s).map partX).map elB).flatten := by rw [List.map_map]; rfl
theorem good_R {p : P2} (h : GoodP p) (h1 : p.1.length ≤ 300) : GoodR p := by
  obtain ⟨l1, l2, l3⟩ := part9_len h h1
  exact ⟨h, by omega, by omega⟩
theorem getS_fwd {s : S3} (h : rightS s = true) (ls : List (List UInt8)) (r : List UInt8) : getS (ls ++ [subB s ++ r]) 0 = ((ls ++ [r], 0), s) := by
  obtain ⟨h1, h2⟩ := good_parts h
  obtain ⟨l1, l2⟩ := sub_len h
  have e : subB s = putL 48 ((partsS s).map partB).flatten := by rw [parts_enc]; rfl
  obtain ⟨r1, r2⟩ := row_fwd part_ok part_fb (tag := 48) (most := 8) ls (xs := partsS s) r (by decide) (fun p hp => good_R (h1 p hp).1 (by have := (h1 p hp).2.1; omega)) (by omega) (by rw [parts_enc]; omega)
  rw [← e] at r1 r2
  have hE : endP (ls ++ [subB s ++ r]) 0 = (ls ++ [r], 0) := r1
  have hL : listP (ls ++ [subB s ++ r]) 0 = partsS s := r2
  have ho : ofP (partsS s) = (s, 0) := (ofP_iff _ _).2 ⟨h, rfl⟩
  unfold getS
  rw [hE, hL, ho, if_neg (by simp)]
theorem sub_depth {s : S3} (h : rightS s = true) : (depthM (subB s)).2 = 0 := by
  obtain ⟨h1, h2⟩ := good_parts h
  obtain ⟨l1, l2⟩ := sub_len h
  refine lev_depth (d := 3) (lev_made (d := 2) (by decide) (by decide) (by decide) (fun x hx => ?_) (by omega)) (by decide) (by have : (elB (subX s)).length = (subB s).length := rfl; omega)
  obtain ⟨p, hp, rfl⟩ := List.mem_map.1 hx
  obtain ⟨h3, h4, h5⟩ := h1 p hp
  obtain ⟨m1, m2, m3⟩ := part9_len h3 (by omega)
  refine lev_made (d := 1) (by decide) (by decide) (by decide) (fun x hx => ?_) (by omega)
  simp only [innerX, List.mem_cons, List.not_mem_nil, or_false] at hx
  rcases hx with rfl | rfl
  · exact lev_plain (by decide) (by decide) (by omega)
  · exact lev_plain (by decide) (by decide) (by omega)
theorem readS_fwd {s : S3} (h : rightS s = true) : readS (subB s) = (s, 0) := by
  have hg := getS_fwd h [] []
  rw [List.append_nil] at hg
  have hg' : getS [subB s] 0 = (([[]], 0), s) := hg
  have he : endK [[]] 0 = 0 := rfl
  unfold readS
  dsimp only
  rw [sub_depth h, hg']
  dsimp only
  rw [he, if_neg (by decide)]
end
section
variable {gs : List Nat} [OkG gs]
open Go.RowKit
end
section
variable {gs : List Nat} [Ok9 gs]
open Go.RowKit Cal

def valF (v : VV) : Nat → CV := fl [.c (.int .i64 v.kind), .c (.int .i64 v.n), .c (.bool v.is), bsC v.b, strC v.t]
def vsC (vs : List VV) : CV := .rs 5 vs.length fun i j => valF (vs.getD i VV.none) j
def bigV (v : VV) : Bool := decide (300 < v.b.length) || decide (300 < v.t.length)
def longM (vs : List VV) : Bool := decide (60 < vs.length) || vs.any bigV
def r0W : R8 := ⟨[], [], 0⟩
theorem newRW {G : Gh} {env : List (Nat × CV)} {b0 : Nat → CV} {H : List (Option Nat × Res)} (n i : Nat) {f : Nat → CV} (hi : H[i]? = some (some n, .blk 3 f)) (h0 : CEnt (f 0) (.c (.slice none 0 0))) (h1 : CEnt (f 1) (.c (.slice none 0 0))) (h2 : CEnt (f 2) (.c (.int .i64 0))) : EntS G ⟨env, b0, H⟩ ⟨env, b0, H.set i (rwO n r0W)⟩ := by
  have hil := (List.getElem?_eq_some_iff.1 hi).1
  have os0 : ∀ {j k : Nat}, CEnt (.c (.slice none 0 0)) (.os j none 0 0 k) := fun al St w v h => ⟨rfl, h⟩
  intro St a w hr
  obtain ⟨S1, s1, r1⟩ := ent_none (G := G) (s := ⟨env, b0, H⟩) (rowsF []) St a w hr
  obtain ⟨S4, s4, r4⟩ := closeRW (G := G) (env := env) (b0 := b0) (H := H ++ [(none, .blk 0 (rowsF []))]) n r0W i H.length (gr := none) (N := 0) (f := f) (F := rowsF [])
    (by rw [List.getElem?_append_left hil]; exact hi) (by simp) (by cases e : Nat.beq i H.length with | false => rfl | true => have := Nat.eq_of_beq_eq_true e; omega) (h0.trans (CEnt.nilS _ _)) (h1.trans os0) h2 (Nat.le_refl _) (fun a h => absurd h (Nat.not_lt_zero a)) S1 a w r1
  obtain ⟨S5, s5, r5⟩ := pick_ent (G := G) (H' := H.set i (rwO n r0W)) (List.range H.length) (range_nodup _) (by
    rw [pickL_range _ _ (by simp)]
    rw [take_set_out _ _ _ _ (by omega), List.take_set, List.take_left]) S4 a w r4
  exact ⟨S5, fun b hb => s5 b (s4 b (s1 b hb)), r5⟩
end
section
open Go.RowKit
section
variable {P : Program} {G : Gh} {o : Oper} {env : List (Nat × CV)} {b0 : Nat → CV} {H : List (Option Nat × Res)} {K : AS → Prop}
theorem m_callHV1 {f : FuncId} {v : Operand} {n d : Nat} {fv : Nat → CV} {xs : Array Operand} {ats : Array TypeId} {args : List CV} {Q : CV → List (Option Nat × Res) → Prop} {i : Nat} {x0 : Option Nat × Res} (ho : o.op = .call ⟨.value v, xs, ats⟩) (hv : (⟨env, b0, H⟩ : AS).eval v = .fn f n fv) (hc : calleeB P f = true) (hi : H[i]? = some x0) (hA : AC G.gs P f [x0] args Q)
    (he : EntL (xs.toList.map (⟨env, b0, H⟩ : AS).eval ++ (List.range n).map fv) args) (hd : o.dst = some d) (hN : Nat.blt d G.N = true)
    (hK : ∀ r H', Q r H' → ∃ x, H' = [x] ∧ K ⟨(d, r) :: env, b0, H.set i x⟩) : AMd P G o ⟨env, b0, H⟩ K :=
  m_callHV ho hv hc hi hA he (dst_s hd hN) (fun r H' hq => by obtain ⟨x, h1, h2⟩ := hK r H' hq; exact ⟨x, h1, by rw [with_some hd]; exact h2⟩)
end
end
section
variable {gs : List Nat} [OkG gs] [OkT gs]
open Go.RowKit Cal

def partV (p : P2) : CV := .agg 2 (partE p)
set_option maxHeartbeats 1000000 in
theorem rowsP_ac {gs : List Nat} [Ok9 gs] {f : FuncId} (hc : calleeB Tryz.prog f = true) (n : Nat) (tag : Int) (ws : W8) (l : List P2) (sG : Nat → W8) (h0 : OkW ws) (hs : sG 0 = openW tag ws) (hok : ∀ i, i ≤ l.length → OkW (sG i)) (hl : l.length ≤ 1000000) (hf : ∀ i, i < l.length → AC gs Tryz.prog f [wrO n (sG i)] [.op 0 (some n) 0, partV (l.getD i ([], []))] (fun r H' => r = .c (.tuple #[]) ∧ H' = [wrO n (sG (i + 1))])) :
    AC gs Tryz.prog 59 [wrO n ws] [.op 0 (some n) 0, .c (.int .i64 tag), partsC l, .fn f 0 fun _ => .top] (fun r H' => r = .c (.tuple #[]) ∧ H' = [wrO n (closeV (sG l.length))]) := by
  refine ac_of 26 Tryz.func59 rfl rfl rfl (fun al w0 F0 St0 => ?_)
  refine jcr ?_;refine jq jrm ?_;refine jq jrm ?_
  refine jqm (jmcH 0 (openW_ac n ws tag h0) ?_)
  rintro _ _ ⟨rfl, rfl⟩
  refine ⟨_, _, rfl, cZ, ?_⟩
  refine jN ?_;refine jcs ?_;refine jcr ?_;refine jq jrm ?_;refine jq jrl ?_;refine jq jrm ?_;refine jN ?_;refine jB ?_;refine l_loop (α := Nat) [9, 15, 16, 17, 18, 19, 20, 21, 22, 23] (fun i => [(15, .c (.int .i64 (i : Nat)))]) (fun i => [wrO n (sG i)]) (fun i => i ≤ l.length) (fun i => l.length - i) (0) ?_ (fun _ => rfl) ?_ ?_ ?_
  · exact Nat.zero_le _
  · exact .cons cZ .nil
  · rw [hs]; exact HEnt.refl _
  · rintro i (hi : i ≤ l.length)
    refine jcr ?_;refine jq jrc ?_;refine jN ?_;refine jcs ?_;refine jcc (fun h305 => ?_) fun h305 => ?_
    rotate_left
    · refine jX (jte (jte (jbx (jtn ?_))))
      have hie : i = l.length := by omega
      subst hie
      refine jcg ?_;refine jq jrm ?_
      refine jqm (jmcH 0 (closeW_ac n (sG l.length) (hok _ (Nat.le_refl _))) ?_)
      rintro _ _ ⟨rfl, rfl⟩
      refine ⟨_, _, rfl, cZ, ?_⟩
      refine jN ?_
      exact end_own (.inr rfl) _ [_] [0] (by decide) rfl (res_0 rfl) ⟨rfl, rfl⟩
    refine jS (jtn ?_)
    refine jcs ?_;refine jB ?_;refine jcr ?_;refine jq jri ?_;refine jq (jrdrA 2) ?_
    refine jqe (jeal (n := 2) zr91 rfl fun p2 => ?_)
    refine jqm (jmstF 2 (partE (l.getD i ([], []))) ?_ ?_)
    · exact (fun j hj => by rcases j with _ | _ | j <;> first | exact cZ | omega)
    refine jN ?_;refine jcg ?_;refine jq jrm ?_;refine jq jrm ?_;refine jqo (jrdoA 2) ?_
    refine jqm (m_callHV1 (i := 0) rfl rfl (by assumption) rfl (hf i (by omega)) (.cons CEnt.opI (.cons (CEnt.agg rfl (fun j hj => CEnt.of_eq (by show partE _ (0 + j) = partE _ j; rw [Nat.zero_add]))) .nil)) rfl rfl ?_)
    rintro _ _ ⟨rfl, rfl⟩
    refine ⟨_, rfl, ?_⟩
    refine jN ?_
    refine jbn (jtn ?_)
    refine jcg ?_;refine jq jra ?_;refine jq jrm ?_;refine jN ?_;refine jtn ?_
    refine jlend (i + 1) ?_ ?_ (h5 := ?_) (h7 := ?_)
    · show i + 1 ≤ l.length; omega
    · show l.length - (i + 1) < l.length - i; omega
    · exact .cons (CEnt.int (by omega)) .nil
    · exact HEnt.refl _
theorem putP_ac (n : Nat) {i : Nat} {r : R8} {s : W8} (hI : Inv8 i r s) (hi : i ≤ 900) (p : P2) (h1 : p.1.length ≤ 300) (h2 : p.2.length ≤ 300) : AC gs Tryz.prog 60 [wrO n s] [.op 0 (some n) 0, partV p] (fun r H' => r = .c (.tuple #[]) ∧ H' = [wrO n (doAll (pv p) s)]) := by
  have I1 := inv_do hI (small_w1 (t := 48) (by decide))
  rw [do_w1] at I1
  have I2 := inv_do I1 (small_v8 h1)
  rw [do_v8] at I2
  have I3 := inv_do I2 (small_v7 h2)
  rw [do_v7] at I3
  have hD : doAll (pv p) s = closeV (putW 12 (if askedM p.2 64 = 0 then p.2 else []) (askedM p.2 64) (putW 6 (putM p.1) (parseM p.1).2 (openW 48 s))) := by
    show doW w2 (doW (v7 p.2 64) (doW (v8 p.1) (doW (w1 48) s))) = _
    rw [do_w1, do_v8, do_v7, do_w2]
  refine ac_of 16 Tryz.func60 rfl rfl rfl (fun al w0 F0 St0 => ?_)
  refine jcr ?_
  refine jqe (jebx 2 fun p1 => ?_)
  refine jN ?_;refine jcr ?_;refine jq jrm ?_
  refine jqm (jmcH 0 (openW_ac n s 48 (inv_okW hI (by omega))) ?_)
  rintro _ _ ⟨rfl, rfl⟩
  refine ⟨_, _, rfl, cZ, ?_⟩
  refine jN ?_;refine jcr ?_;refine jq jrm ?_;refine jq (jrfa 0 1 false) ?_;refine jqo jrdo ?_
  refine jqm (jmcH 0 (oidW_ac n (openW 48 s) p.1 (by omega) (inv_okW I1 (by omega))) ?_)
  rintro _ _ ⟨rfl, rfl⟩
  refine ⟨_, _, rfl, cZ, ?_⟩
  refine jN ?_;refine jcr ?_;refine jq jrm ?_;refine jq (jrfa 1 1 false) ?_;refine jqo jrdo ?_
  refine jqm (jmcH 0 (textW_ac n (putW 6 (putM p.1) (parseM p.1).2 (openW 48 s)) p.2 64 (by omega) (inv_okW I2 (by omega))) ?_)
  rintro _ _ ⟨rfl, rfl⟩
  refine ⟨_, _, rfl, cZ, ?_⟩
  refine jN ?_;refine jcg ?_;refine jq jrm ?_
  refine jqm (jmcH 0 (closeW_ac n (putW 12 (if askedM p.2 64 = 0 then p.2 else []) (askedM p.2 64) (putW 6 (putM p.1) (parseM p.1).2 (openW 48 s))) (inv_okW I3 (by omega))) ?_)
  rintro _ _ ⟨rfl, rfl⟩
  refine ⟨_, _, rfl, cZ, ?_⟩
  refine jN ?_
  rw [hD]
  exact end_own (.inr rfl) _ [_] [0] (by decide) rfl (res_0 rfl) ⟨rfl, rfl⟩
theorem putG_ac (n : Nat) {i : Nat} {r : R8} {w : W8} (hI : Inv8 i r w) (hi : i ≤ 800) (s : S3) (L : List P2) (e : Nat) (hp : ACp gs Tryz.prog 14 [subjC s] (.tup 2 (fl [partsC L, .err e]))) (hL : ∀ p ∈ L, p.1.length ≤ 300 ∧ p.2.length ≤ 300) (hl : L.length ≤ 8) :
    AC gs Tryz.prog 26 [wrO n w] [.op 0 (some n) 0, subjC s] (fun r H' => r = .c (.tuple #[]) ∧ H' = [wrO n (closeV (doAll (L.flatMap pv) (openW 48 (failW e w))))]) := by
  have I0 := inv_fail hI e
  have I1 := inv_do I0 (small_w1 (t := 48) (by decide))
  rw [do_w1] at I1
  have hG : ∀ j, j ≤ L.length → ∃ r', Inv8 (i + 1 + 4 * j) r' (doAll ((L.take j).flatMap pv) (openW 48 (failW e w))) := fun j hj => by
    refine ⟨_, inv_mono (inv_all ((L.take j).flatMap pv) I1 fun v hv => ?_) ?_⟩
    · obtain ⟨p, hp, hv⟩ := List.mem_flatMap.1 hv
      have h := hL p (List.mem_of_mem_take hp)
      exact small_pv h.1 h.2 v hv
    · rw [pvs_len, List.length_take]; omega
  have hS : ∀ j, j < L.length → doAll ((L.take (j + 1)).flatMap pv) (openW 48 (failW e w)) = doAll (pv (L.getD j ([], []))) (doAll ((L.take j).flatMap pv) (openW 48 (failW e w))) := fun j hj => by
    rw [List.take_succ_eq_append_getElem hj, List.flatMap_append, doAll_app, List.getD_eq_getElem?_getD, List.getElem?_eq_getElem hj]
    simp
  have hok : ∀ j, j ≤ L.length → OkW (doAll ((L.take j).flatMap pv) (openW 48 (failW e w))) := fun j hj => by
    obtain ⟨r', h⟩ := hG j hj
    exact inv_okW h (by omega)
  have hf : ∀ j, j < L.length → AC gs Tryz.prog 60 [wrO n (doAll ((L.take j).flatMap pv) (openW 48 (failW e w)))] [.op 0 (some n) 0, partV (L.getD j ([], []))] (fun r H' => r = .c (.tuple #[]) ∧ H' = [wrO n (doAll ((L.take (j + 1)).flatMap pv) (openW 48 (failW e w)))]) := fun j hj => by
    obtain ⟨r', h⟩ := hG j (by omega)
    have hm : L.getD j ([], []) ∈ L := by
      rw [List.getD_eq_getElem?_getD, List.getElem?_eq_getElem hj]
      exact List.getElem_mem _
    rw [hS j hj]
    exact putP_ac n h (by omega) _ (hL _ hm).1 (hL _ hm).2
  have hR := rowsP_ac (gs := gs) (f := 60) (by kernel_rfl) n 48 (failW e w) L (fun j => doAll ((L.take j).flatMap pv) (openW 48 (failW e w))) (inv_okW I0 (by omega)) rfl hok (by omega) hf
  rw [List.take_length] at hR
  refine ac_of 17 Tryz.func26 rfl rfl rfl (fun al w0 F0 St0 => ?_)
  refine jcr ?_
  refine jqe (jebx 3 fun p1 => ?_)
  refine jN ?_;refine jcr ?_;refine jqo (jrdoA 3) ?_
  refine jqe (jecP hp ?_)
  refine jq jrm ?_;refine jq jrx ?_;refine jq jrx ?_;refine jq jrm ?_;refine jq jrm ?_;refine jN ?_;refine jcr ?_;refine jq jrm ?_;refine jq jrm ?_
  refine jqm (jmcH 0 (failW_ac n w e) ?_)
  rintro _ _ ⟨rfl, rfl⟩
  refine ⟨_, _, rfl, cZ, ?_⟩
  refine jN ?_;refine jcg ?_;refine jq jrm ?_;refine jq jrm ?_
  refine jqm (jmcH 0 hR ?_ (ho := rfl) (he := (.cons (se rfl CEnt.opI) (.cons (se rfl cZ) (.cons (se rfl cZ) (.cons (se rfl CEnt.fn0) .nil))))))
  rintro _ _ ⟨rfl, rfl⟩
  refine ⟨_, _, rfl, cZ, ?_⟩
  refine jN ?_
  exact end_own (.inr rfl) _ [_] [0] (by decide) rfl (res_0 rfl) ⟨rfl, rfl⟩
theorem nput_ac (n : Nat) {i : Nat} {r : R8} {w : W8} (hI : Inv8 i r w) (hi : i ≤ 800) (s : S3) : AC gs Tryz.prog 26 [wrO n w] [.op 0 (some n) 0, subjC s] (fun r H' => r = .c (.tuple #[]) ∧ H' = [wrO n (putS s w)]) := by
  have hp := nparts_ac (gs := gs) s
  by_cases hr : rightS s = true
  · rw [if_pos hr, if_pos hr] at hp
    obtain ⟨h1, h2⟩ := good_parts hr
    have h := putG_ac n hI hi s _ _ hp (fun p hp => by have := h1 p hp; omega) (by omega)
    have e : putS s w = closeV (doAll ((partsS s).flatMap pv) (openW 48 (failW 0 w))) := by
      unfold putS
      rw [if_pos hr, failW_zero]
      show doAll ((partsS s).flatMap pv ++ [w2]) (doW (w1 48) w) = _
      rw [do_w1, doAll_app]
      exact do_w2 _
    rw [e]
    exact h
  · rw [if_neg hr, if_neg hr] at hp
    have h := putG_ac n hI hi s _ _ hp (fun p hp => by cases hp) (by decide)
    have hk : (failW 9 w).k ≠ 0 := by
      unfold failW
      split
      · show (9 : Nat) ≠ 0; decide
      · assumption
    have e : putS s w = closeV (doAll (([] : List P2).flatMap pv) (openW 48 (failW 9 w))) := by
      unfold putS
      rw [if_neg hr]
      show _ = closeV (openW 48 (failW 9 w))
      rw [← do_w1, ← do_w2, doW_bad8 hk, doW_bad8 hk]
    rw [e]
    exact h
def r00 : R8 := ⟨[], [], 0⟩
theorem inv_00 : Inv8 0 r00 w00 := inv_zero
theorem nbytes_ac (s : S3) : ACp gs Tryz.prog 16 [subjC s] (.tup 2 (fl [bsC (doneB (putS s w00)), .err (doneK (putS s w00))])) := by
  have I1 := inv_putS inv_00 s
  refine ac_of 14 Tryz.func16 rfl rfl rfl (fun al w0 F0 St0 => ?_)
  refine jcr ?_
  refine jqe (jebx 3 fun p1 => ?_)
  refine jq jrm ?_;refine jq jrm ?_;refine jN ?_;refine jcr ?_;refine jq (rd_build (n := 3) rfl zr55 pl55 rfl rfl) ?_
  refine jqe (jebx 3 fun p2 => ?_)
  refine jq jrm ?_;refine jN ?_;refine code_knowG (know_op 6 rfl) fun hn => ?_
  obtain ⟨n, rfl⟩ := hn
  refine jE (newW n 1 rfl cZ cZ CEnt.nil) ?_
  dsimp only [List.set_cons_zero, List.set_cons_succ, List.cons_append, List.nil_append, List.length_cons, List.length_nil, Nat.zero_add, Nat.reduceAdd]
  refine jcr ?_;refine jq jrm ?_;refine jqo (jrdoA 3) ?_
  refine jqm (jmcH 1 (nput_ac n inv_00 (by decide) s) ?_)
  rintro _ _ ⟨rfl, rfl⟩
  refine ⟨_, _, rfl, cZ, ?_⟩
  refine jN ?_;refine jcr ?_;refine jq jrm ?_
  refine jqm (jmcH 1 (doneW_ac n (putS s w00) (inv_okW I1 (by decide))) ?_)
  rintro _ _ ⟨rfl, rfl⟩
  refine ⟨_, _, rfl, cZ, ?_⟩
  refine jq jrx ?_;refine jq jrx ?_;refine jq jrm ?_;refine jq jrm ?_;refine jN ?_
  refine jR (jrt (hv := cZ))
end
section
variable {gs : List Nat} [OkG gs] [OkT gs]
open Go.RowKit Cal

set_option maxHeartbeats 2000000 in
theorem rowP_ac {gs : List Nat} [Ok9 gs] {f : FuncId} (hc : calleeB Tryz.prog f = true) (n : Nat) (l : List (List UInt8)) (k : Nat) (tag most : Int) {sp : StepR P2} (ok : StepOk sp) (hl : 0 < l.length ∧ l.length ≤ 100000) (hb : sumL l ≤ 100000) (hf : ∀ l k, 0 < l.length ∧ l.length ≤ 200000 → sumL l ≤ 100000 → moreM l k = true → AC gs Tryz.prog f [rdO n l k] [.op 0 (some n) 0] (fun r H' => r = partV (sp l k).2 ∧ H' = [rdO n (sp l k).1.1 (sp l k).1.2])) :
    AC gs Tryz.prog 72 [rdO n l k] [.op 0 (some n) 0, .c (.int .i64 tag), .c (.int .i64 most), .fn f 0 fun _ => .top]
      (fun r H' => r = partsC (if (endG sp (enterL tag l k) (enterR tag l k).k most).2 = 0 then (stG sp (enterL tag l k) (enterR tag l k).k (jG sp (enterL tag l k) (enterR tag l k).k most)).2 else []) ∧ H' = [rdO n (endG sp (enterL tag l k) (enterR tag l k).k most).1 (endG sp (enterL tag l k) (enterR tag l k).k most).2]) := by
  have he := enter_mu (t := tag) (l := l) (k := k) hl.1
  have hle : l.length ≤ (enterL tag l k).length ∧ (enterL tag l k).length ≤ l.length + 1 := by
    by_cases h : (enterR tag l k).k = 0
    · have := he.2.2.2.1 h; omega
    · have := he.2.2.2.2.1 h; omega
  have hsm : muS (enterL tag l k) (enterR tag l k).k ≤ 100001 := by
    have h0 : muS l k ≤ 100001 := by unfold muS; split <;> omega
    exact Nat.le_trans he.2.1 h0
  have hse : sumL (enterL tag l k) ≤ 100000 := by
    have h1 := he.2.1
    have h2 := he.2.2.1
    have h3 := he.1
    by_cases hk : k = 0
    · have h4 := h2 hk
      unfold muS at h4
      rw [if_pos hk] at h4
      split at h4 <;> omega
    · rw [(h3 hk).1]; exact hb
  have hnl := now_sum l
  generalize hl0 : enterL tag l k = l0 at *
  generalize hk0 : (enterR tag l k).k = k0 at *
  have hso := fun j => stG_out sp l0 k0 j
  have hbd := stG_bd (sp := sp) (k0 := k0) (most := most) ok (show 0 < l0.length by omega)
  refine ac_of 36 Tryz.func72 rfl rfl rfl (fun al w0 F0 St0 => ?_)
  refine jcr ?_;refine jq jrm ?_;refine jN ?_;refine jcr ?_;refine jq jrm ?_;refine jN ?_;refine jcr ?_;refine jq jrm ?_;refine jq jrm ?_
  refine jqm (jmcH 0 (enter_ac n l k tag (by omega) (by omega)) ?_)
  rintro _ _ ⟨rfl, rfl⟩
  refine ⟨_, _, rfl, cZ, ?_⟩
  refine jN ?_;refine jcs ?_;refine jB ?_
  rw [hl0, hk0]
  refine jE (own_nil 9 2 (rowF 2 partE ([], []) []) rfl) ?_;refine l_loop (α := Nat × Option Nat) [9, 13, 14, 15, 16, 17, 18, 19, 20, 21, 22, 23, 24, 25, 26, 27] (fun (j, g) => [(9, .os 1 g 0 (stG sp l0 k0 j).2.length 2)]) (fun (j, g) => [rdO n (stG sp l0 k0 j).1.1 (stG sp l0 k0 j).1.2, (g, .blk ((stG sp l0 k0 j).2.length * 2) (rowF 2 partE ([], []) (stG sp l0 k0 j).2))]) (fun p => ∀ i, i < p.1 → goB sp l0 k0 most i = true) (fun p => muS (stG sp l0 k0 p.1).1.1 (stG sp l0 k0 p.1).1.2) ((0, none)) ?_ (fun _ => rfl) ?_ ?_ ?_
  · exact fun i hi => absurd hi (Nat.not_lt_zero i)
  · exact .cons (CEnt.osI rfl) .nil
  · exact HEnt.refl _
  · rintro ⟨j, g⟩ (hj : ∀ i, i < j → goB sp l0 k0 most i = true)
    obtain ⟨hmj, hlk, hlo, hhi⟩ := hbd j hj
    have hjl : 0 < (stG sp l0 k0 j).1.1.length ∧ (stG sp l0 k0 j).1.1.length ≤ 200000 := by omega
    have hjo := hso j
    have hjm : j ≤ 100001 := by omega
    refine jcs ?_;refine jcr ?_;refine jq jrm ?_
    refine jqm (jmcH 0 (more_ac n (stG sp l0 k0 j).1.1 (stG sp l0 k0 j).1.2 (by omega)) ?_)
    rintro _ _ ⟨rfl, rfl⟩
    refine ⟨_, _, rfl, cZ, ?_⟩
    refine jN ?_;refine jcc (fun h315 => ?_) fun h315 => ?_
    rotate_left
    · refine jX (jte (jte (jbx (jtn ?_))))
      first
        | (have hmt : moreM (stG sp l0 k0 j).1.1 (stG sp l0 k0 j).1.2 = true := by simpa using h315
           have hkz := (more_pos hmt).1
           rw [if_pos hkz]
           have hstop : jG sp l0 k0 most = j := jG_one ok (by omega) hj (by unfold goB; rw [hmt, Bool.true_and, decide_eq_false_iff_not]; omega)
           have hE : rdO n (leaveL (stG sp l0 k0 j).1.1 3) (leaveK (stG sp l0 k0 j).1.1 3) = rdO n (endG sp l0 k0 most).1 (endG sp l0 k0 most).2 := by
             unfold endG
             rw [hstop]
             dsimp only
             rw [if_pos hmt])
        | (have hmf : moreM (stG sp l0 k0 j).1.1 (stG sp l0 k0 j).1.2 = false := by simpa using h315
           have hstop : jG sp l0 k0 most = j := jG_one ok (by omega) hj (by unfold goB; rw [hmf]; rfl)
           have hE : rdO n (leaveL (stG sp l0 k0 j).1.1 (stG sp l0 k0 j).1.2) (leaveK (stG sp l0 k0 j).1.1 (stG sp l0 k0 j).1.2) = rdO n (endG sp l0 k0 most).1 (endG sp l0 k0 most).2 := by
             unfold endG
             rw [hstop]
             dsimp only
             rw [if_neg (by rw [hmf]; simp)])
      refine jcr ?_;refine jq jrm ?_
      refine jqm (jmcH 0 (leave_ac n (stG sp l0 k0 j).1.1 _ (by omega)) ?_)
      rintro _ _ ⟨rfl, rfl⟩
      refine ⟨_, _, rfl, cZ, ?_⟩
      refine jN ?_;refine jcs ?_
      dsimp only
      rw [hE, hstop]
      refine code_openR 0 rfl fun gl => ?_;refine jcr ?_;refine jq jrm ?_;refine jq jrnc ?_;refine jq (jrfa 1 1 false) ?_;refine jqo jrdo ?_;refine jq jre ?_;refine jN ?_;refine jcc (fun h323 => ?_) fun h323 => ?_
      · refine jE (closeR n (endG sp l0 k0 most).2 (endG sp l0 k0 most).1 0 2 rfl rfl rfl (CEnt.osI rfl) cZ (Nat.le_refl _) (fun _ _ => cZ)) ?_;refine jcr ?_;refine jq jrm ?_;refine jN ?_
        refine jR (jtr ?_)
        exact end_ownV (.inl rfl) [0] (by decide) rfl (res_1 rfl (arv_tmp rfl)) (m := partsC []) (CEnt.nilS' rfl) ⟨by rw [if_neg (by omega)], rfl⟩
      refine jS (jtn ?_)
      refine jE (closeR n (endG sp l0 k0 most).2 (endG sp l0 k0 most).1 0 2 rfl rfl rfl (CEnt.osI rfl) cZ (Nat.le_refl _) (fun _ _ => cZ)) ?_;refine jcr ?_;refine jq jrm ?_;refine jq jrm ?_;refine jN ?_;refine jE (freeze 1 rfl) ?_;refine jE (thaw 8 (fun a b => partE ((stG sp l0 k0 j).2.getD a ([], [])) b) rfl rfl (by omega) (fun a b ha hb => CEnt.of_eq (by rw [Nat.zero_add, rowF_at hb]))) ?_;refine jR ?_
      exact end_ownV (.inl rfl) [0] (by decide) rfl (res_1 rfl (arv_tmp rfl)) (m := partsC (stG sp l0 k0 j).2) cZ ⟨by rw [if_pos (by omega)], rfl⟩
    refine jS (jtn ?_)
    refine jB ?_;refine jcs ?_;refine jcr ?_;refine jq jrm ?_;refine jq jrl ?_;refine jq jrm ?_;refine jq jrc ?_;refine jN ?_;refine jcc (fun h316 => ?_) fun h316 => ?_
    rotate_left
    · refine jS (jtn ?_)
      have hmt0 : moreM (stG sp l0 k0 j).1.1 (stG sp l0 k0 j).1.2 = true := by simpa using h315
      have hgo : goB sp l0 k0 most j = true := by unfold goB; rw [hmt0, Bool.true_and, decide_eq_true_eq]; omega
      refine jcg ?_;refine jq jrm ?_;refine jq jrm ?_;refine jq jrm ?_
      refine jqm (m_callHV1 (i := 0) rfl rfl (by assumption) rfl (hf (stG sp l0 k0 j).1.1 (stG sp l0 k0 j).1.2 hjl (by have h1 : muS (stG sp l0 k0 j).1.1 (stG sp l0 k0 j).1.2 = sumL (stG sp l0 k0 j).1.1 + 1 := (by unfold muS; rw [if_pos (more_pos hmt0).1]); omega) hmt0) (.cons CEnt.opI .nil) rfl rfl ?_)
      rintro _ _ ⟨rfl, rfl⟩
      refine ⟨_, rfl, ?_⟩
      refine jqe (jebl 2 2 zr91 fun p3 => ?_)
      refine jqm (m_appendC (rowC_row 2 partE ([], [])) (l2 := [(sp (stG sp l0 k0 j).1.1 (stG sp l0 k0 j).1.2).2]) rfl rfl rfl rfl (by exact Nat.le_refl _) (fun _ _ => cZ) (src_os rfl (.inl rfl) (by decide)) rfl (fun j hj => by rcases j with _|_|j <;> first | exact cZ | exact CEnt.int (by omega) | (exfalso; simp at hj <;> omega)) Tryz.underlying38 nu38 sz91 zr91 by91 rfl (by (simp; omega)) (by (simp; omega)) (leaf_flk rfl rfl) rfl rfl rfl (fun p4 => ?_))
      refine jq jrm ?_;refine jN ?_
      refine jbn (jtn ?_)
      refine jlend ((j + 1, p4)) ?_ ?_ (h5 := ?_) (h7 := ?_)
      · exact fun i hi => if h : i < j then hj i h else (by obtain rfl : i = j := (by have hi : i < j + 1 := hi; omega); exact hgo)
      · exact ok.mu _ _ (by omega) (by unfold goB at hgo; rw [Bool.and_eq_true] at hgo; exact hgo.1)
      · exact .cons (CEnt.osI rfl) .nil
      · exact HEnt.refl _
    refine jcr ?_;refine jq jrm ?_;refine jq (jrde 2) ?_
    refine jqm (jmcH 0 (fail08_ac n (stG sp l0 k0 j).1.1 (stG sp l0 k0 j).1.2 3) ?_)
    rintro _ _ ⟨rfl, rfl⟩
    refine ⟨_, _, rfl, cZ, ?_⟩
    refine jN ?_
    refine jX (jte (jbx2 (jte (jbx (jtn ?_)))))
    first
      | (have hmt : moreM (stG sp l0 k0 j).1.1 (stG sp l0 k0 j).1.2 = true := by simpa using h315
         have hkz := (more_pos hmt).1
         rw [if_pos hkz]
         have hstop : jG sp l0 k0 most = j := jG_one ok (by omega) hj (by unfold goB; rw [hmt, Bool.true_and, decide_eq_false_iff_not]; omega)
         have hE : rdO n (leaveL (stG sp l0 k0 j).1.1 3) (leaveK (stG sp l0 k0 j).1.1 3) = rdO n (endG sp l0 k0 most).1 (endG sp l0 k0 most).2 := by
           unfold endG
           rw [hstop]
           dsimp only
           rw [if_pos hmt])
      | (have hmf : moreM (stG sp l0 k0 j).1.1 (stG sp l0 k0 j).1.2 = false := by simpa using h315
         have hstop : jG sp l0 k0 most = j := jG_one ok (by omega) hj (by unfold goB; rw [hmf]; rfl)
         have hE : rdO n (leaveL (stG sp l0 k0 j).1.1 (stG sp l0 k0 j).1.2) (leaveK (stG sp l0 k0 j).1.1 (stG sp l0 k0 j).1.2) = rdO n (endG sp l0 k0 most).1 (endG sp l0 k0 most).2 := by
           unfold endG
           rw [hstop]
           dsimp only
           rw [if_neg (by rw [hmf]; simp)])
    refine jcr ?_;refine jq jrm ?_
    refine jqm (jmcH 0 (leave_ac n (stG sp l0 k0 j).1.1 _ (by omega)) ?_)
    rintro _ _ ⟨rfl, rfl⟩
    refine ⟨_, _, rfl, cZ, ?_⟩
    refine jN ?_;refine jcs ?_
    dsimp only
    rw [hE, hstop]
    refine code_openR 0 rfl fun gl => ?_;refine jcr ?_;refine jq jrm ?_;refine jq jrnc ?_;refine jq (jrfa 1 1 false) ?_;refine jqo jrdo ?_;refine jq jre ?_;refine jN ?_;refine jcc (fun h323 => ?_) fun h323 => ?_
    · refine jE (closeR n (endG sp l0 k0 most).2 (endG sp l0 k0 most).1 0 2 rfl rfl rfl (CEnt.osI rfl) cZ (Nat.le_refl _) (fun _ _ => cZ)) ?_;refine jcr ?_;refine jq jrm ?_;refine jN ?_
      refine jR (jtr ?_)
      exact end_ownV (.inl rfl) [0] (by decide) rfl (res_1 rfl (arv_tmp rfl)) (m := partsC []) (CEnt.nilS' rfl) ⟨by rw [if_neg (by omega)], rfl⟩
    refine jS (jtn ?_)
    refine jE (closeR n (endG sp l0 k0 most).2 (endG sp l0 k0 most).1 0 2 rfl rfl rfl (CEnt.osI rfl) cZ (Nat.le_refl _) (fun _ _ => cZ)) ?_;refine jcr ?_;refine jq jrm ?_;refine jq jrm ?_;refine jN ?_;refine jE (freeze 1 rfl) ?_;refine jE (thaw 8 (fun a b => partE ((stG sp l0 k0 j).2.getD a ([], [])) b) rfl rfl (by omega) (fun a b ha hb => CEnt.of_eq (by rw [Nat.zero_add, rowF_at hb]))) ?_;refine jR ?_
    exact end_ownV (.inl rfl) [0] (by decide) rfl (res_1 rfl (arv_tmp rfl)) (m := partsC (stG sp l0 k0 j).2) cZ ⟨by rw [if_pos (by omega)], rfl⟩
theorem oidR_ac {gs : List Nat} [Ok9 gs] (n : Nat) (l : List (List UInt8)) (k : Nat) (hl : 0 < l.length ∧ l.length ≤ 1000000) (hb : (nowL l).length ≤ 10000000) : AC gs Tryz.prog 112 [rdO n l k] [.op 0 (some n) 0] (fun r H' => r = strC (readR aO l k).v.t ∧ H' = [rdO n (readR aO l k).l (readR aO l k).k]) := by
  have h := oid08_ac (gs := gs) n l k hl hb
  rw [readR_g vT [] rfl (t := 6) (f := ogetM) (by decide) (by decide) (by decide) (by funext b; rfl) rfl]
  exact h
theorem textR_ac {gs : List Nat} [Ok9 gs] [OkT gs] (n : Nat) (l : List (List UInt8)) (k : Nat) (hl : 0 < l.length ∧ l.length ≤ 1000000) (hb : (nowL l).length ≤ 10000000) : AC gs Tryz.prog 113 [rdO n l k] [.op 0 (some n) 0, .c (.int .i64 64)] (fun r H' => r = strC (readR aT l k).v.t ∧ H' = [rdO n (readR aT l k).l (readR aT l k).k]) := by
  have h := text08_ac (gs := gs) n l k 64 hl hb
  rw [readR_g vT [] rfl (t := 12) (f := fun b => (if askedM b 64 = 0 then b else [], askedM b 64)) (by decide) (by decide) (by decide) (by funext b; rfl) rfl]
  exact h
theorem mu_sum {l : List (List UInt8)} {k B : Nat} (h : muS l k ≤ B) : sumL l ≤ B := by unfold muS at h; omega
theorem read_bd (a : AA) {l : List (List UInt8)} {k m B : Nat} (hl : 0 < l.length ∧ l.length ≤ m) (hb : muS l k ≤ B) (h2 : a.kind ≠ 2) : (0 < (readR a l k).l.length ∧ (readR a l k).l.length ≤ m + 1) ∧ muS (readR a l k).l (readR a l k).k ≤ B := by
  obtain ⟨a1, a2, a3, a4, a5, a6, a7⟩ := read_mu a (l := l) (k := k) hl.1
  refine ⟨?_, by omega⟩
  by_cases h1 : a.kind = 1
  · obtain ⟨a41, a42⟩ := a4 h1
    by_cases h : (readR a l k).k = 0
    · have := a41 h; omega
    · have := a42 h; omega
  · have := a6 h1 h2; omega
theorem now_le {l : List (List UInt8)} {k B : Nat} (h : muS l k ≤ B) : (nowL l).length ≤ B := Nat.le_trans (now_sum l) (mu_sum h)
theorem npart_ac {gs : List Nat} [Ok9 gs] [OkT gs] (n : Nat) (l : List (List UInt8)) (k : Nat) (hl : 0 < l.length ∧ l.length ≤ 200000) (hb : sumL l ≤ 100000) : AC gs Tryz.prog 73 [rdO n l k] [.op 0 (some n) 0] (fun r H' => r = partV (partSp l k).2 ∧ H' = [rdO n (partSp l k).1.1 (partSp l k).1.2]) := by
  have m0 : muS l k ≤ 100001 := by unfold muS; split <;> omega
  obtain ⟨f1, f2⟩ := read_enter aL rfl l k
  obtain ⟨l1, m1⟩ := read_bd aL hl m0 (by decide)
  obtain ⟨l2, m2⟩ := read_bd aO l1 m1 (by decide)
  obtain ⟨l3, m3⟩ := read_bd aT l2 m2 (by decide)
  obtain ⟨f3, f4⟩ := read_leave aE rfl (readR aT (readR aO (readR aL l k).l (readR aL l k).k).l (readR aO (readR aL l k).l (readR aL l k).k).k).l (readR aT (readR aO (readR aL l k).l (readR aL l k).k).l (readR aO (readR aL l k).l (readR aL l k).k).k).k
  have n0 := now_le m0
  have n1 := now_le m1
  have n2 := now_le m2
  have n3 := now_le m3
  have hE : AC gs Tryz.prog 34 [rdO n l k] [.op 0 (some n) 0, .c (.int .i64 48)] (fun r H' => r = .c (.bool (enterR 48 l k).is) ∧ H' = [rdO n (readR aL l k).l (readR aL l k).k]) := by
    rw [f1, f2]
    exact enter_ac n l k 48 (by omega) (by omega)
  have hL := leave_ac (gs := gs) n (readR aT (readR aO (readR aL l k).l (readR aL l k).k).l (readR aO (readR aL l k).l (readR aL l k).k).k).l (readR aT (readR aO (readR aL l k).l (readR aL l k).k).l (readR aO (readR aL l k).l (readR aL l k).k).k).k (by omega)
  rw [← f3, ← f4] at hL
  refine ac_of 14 Tryz.func73 rfl rfl rfl (fun al w0 F0 St0 => ?_)
  refine jcr ?_
  refine jqe (jeal (n := 2) zr91 rfl fun p1 => ?_)
  refine jN ?_;refine jcr ?_;refine jq jrm ?_
  refine jqm (jmcH 0 hE ?_)
  rintro _ _ ⟨rfl, rfl⟩
  refine ⟨_, _, rfl, cZ, ?_⟩
  refine jN ?_;refine jcr ?_;refine jq jrm ?_
  refine jqm (jmcH 0 (oidR_ac n (readR aL l k).l (readR aL l k).k (by omega) (by omega)) ?_)
  rintro _ _ ⟨rfl, rfl⟩
  refine ⟨_, _, rfl, cZ, ?_⟩
  refine jq jrm ?_
  refine jqm (jmcH 0 (textR_ac n (readR aO (readR aL l k).l (readR aL l k).k).l (readR aO (readR aL l k).l (readR aL l k).k).k (by omega) (by omega)) ?_)
  rintro _ _ ⟨rfl, rfl⟩
  refine ⟨_, _, rfl, cZ, ?_⟩
  refine jq (rd_build (n := 2) rfl zr91 pl91 rfl rfl) ?_
  refine jqe (jeal (n := 2) zr91 rfl fun p5 => ?_)
  refine jqm (jmst 2 ?_)
  refine jN ?_;refine jcr ?_;refine jq jrm ?_
  refine jqm (jmcH 0 hL ?_)
  rintro _ _ ⟨rfl, rfl⟩
  refine ⟨_, _, rfl, cZ, ?_⟩
  refine jN ?_;refine jcr ?_;refine jqo (jrdoA 2) ?_
  refine jqm (jmst 2 ?_)
  refine jN ?_;refine jR ?_
  exact end_H (.inl rfl) rfl (res_1 rfl (javA 2)) (CEnt.agg rfl (fun j hj => by rcases j with _ | _ | j <;> first | exact cZ | omega))
set_option maxHeartbeats 1000000 in
theorem nget_ac (n : Nat) (l : List (List UInt8)) (k : Nat) (hl : 0 < l.length ∧ l.length ≤ 100000) (hb : sumL l ≤ 100000) : AC gs Tryz.prog 36 [rdO n l k] [.op 0 (some n) 0] (fun r H' => r = subjC (getS l k).2 ∧ H' = [rdO n (getS l k).1.1 (getS l k).1.2]) := by
  have hR := rowP_ac (gs := gs) (f := 73) (by kernel_rfl) n l k 48 8 part_ok hl hb (fun l k h1 h2 _ => npart_ac n l k h1 h2)
  have hlen : (listP l k).length ≤ 1000000 := by
    have h1 := jG_stop (sp := partSp) (l0 := enterL 48 l k) (k0 := (enterR 48 l k).k) (most := 8) part_ok (by
      obtain ⟨_, _, _, e4, e5, _⟩ := enter_mu (t := 48) (l := l) (k := k) hl.1
      by_cases h0 : (enterR 48 l k).k = 0
      · rw [e4 h0]; omega
      · rw [e5 h0]; omega)
    have h2 := stG_out partSp (enterL 48 l k) (enterR 48 l k).k (jG partSp (enterL 48 l k) (enterR 48 l k).k 8)
    have h3 : (listP l k).length = jG partSp (enterL 48 l k) (enterR 48 l k).k 8 := h2
    rw [h3]
    rcases Nat.eq_zero_or_pos (jG partSp (enterL 48 l k) (enterR 48 l k).k 8) with hz | hz
    · omega
    · have hg := h1.1 (jG partSp (enterL 48 l k) (enterR 48 l k).k 8 - 1) (by omega)
      unfold goB at hg
      rw [Bool.and_eq_true, decide_eq_true_eq] at hg
      omega
  have hR' : AC gs Tryz.prog 72 [rdO n l k] [.op 0 (some n) 0, .c (.int .i64 48), .c (.int .i64 8), .fn 73 0 fun _ => .top] (fun r H' => r = partsC (if (endP l k).2 = 0 then listP l k else []) ∧ H' = [rdO n (endP l k).1 (endP l k).2]) := hR
  have hO := nof_ac (gs := gs) (listP l k) hlen
  refine ac_of 21 Tryz.func36 rfl rfl rfl (fun al w0 F0 St0 => ?_)
  refine jcr ?_
  refine jqe (jeal (n := 3) zr26 rfl fun p1 => ?_)
  refine jN ?_;refine jcr ?_;refine jq jrm ?_
  refine jqm (jmcH 0 (hR') ?_ (ho := rfl) (he := (.cons (se rfl CEnt.opI) (.cons (se rfl cZ) (.cons (se rfl cZ) (.cons (se rfl CEnt.fn0) .nil))))))
  rintro _ _ ⟨rfl, rfl⟩
  refine ⟨_, _, rfl, cZ, ?_⟩
  refine jq jrm ?_;refine jN ?_;refine jcs ?_;refine jcr ?_;refine jq jrm ?_
  refine jqm (jmcH 0 (err08_ac n (endP l k).1 (endP l k).2) ?_)
  rintro _ _ ⟨rfl, rfl⟩
  refine ⟨_, _, rfl, cZ, ?_⟩
  refine jq jre ?_;refine jN ?_;refine jcc (fun h117 => ?_) fun h117 => ?_
  · refine jcr ?_;refine jq (rd_build (n := 3) rfl zr26 pl26 rfl rfl) ?_
    refine jqm (jmst 3 ?_)
    refine jN ?_
    refine jR (jtr ?_)
    rw [show getS l k = (endP l k, zeroS) by unfold getS; rw [if_pos (by omega)]]
    exact end_H (.inl rfl) rfl (res_1 rfl (javA 3)) (CEnt.agg rfl (fun j hj => by rcases j with _ | _ | _ | j <;> first | exact cZ | omega))
  refine jS (jtn ?_)
  have hz : (endP l k).2 = 0 := by omega
  rw [if_pos hz]
  refine jcr ?_;refine jq jrm ?_
  refine jqe (jecP hO ?_)
  refine jq jrm ?_;refine jq jrx ?_;refine jq jrx ?_
  refine jqe (jeal (n := 3) zr26 rfl fun p4 => ?_)
  refine jqm (jmst 3 ?_)
  refine jq jrm ?_;refine jN ?_;refine jcr ?_;refine jq jrm ?_;refine jq jrm ?_
  refine jqm (jmcH 0 (fail08_ac n (endP l k).1 (endP l k).2 (ofP (listP l k)).2) ?_)
  rintro _ _ ⟨rfl, rfl⟩
  refine ⟨_, _, rfl, cZ, ?_⟩
  refine jN ?_;refine jcr ?_;refine jqo (jrdoA 3) ?_
  refine jqm (jmst 3 ?_)
  refine jN ?_;refine jR ?_
  rw [if_pos hz, show getS l k = (((endP l k).1, (ofP (listP l k)).2), (ofP (listP l k)).1) by unfold getS; rw [if_neg (by omega)]]
  exact end_H (.inl rfl) rfl (res_1 rfl (javA 3)) (CEnt.agg rfl (fun j hj => by rcases j with _ | _ | _ | j <;> first | exact cZ | omega))
theorem getS_len (l : List (List UInt8)) (k : Nat) (hl : 0 < l.length) : 0 < (getS l k).1.1.length ∧ (getS l k).1.1.length ≤ l.length + 17 := by
  have hE : (getS l k).1.1 = (endP l k).1 := by unfold getS; split <;> rfl
  have he : 0 < (enterL 48 l k).length ∧ (enterL 48 l k).length ≤ l.length + 1 := by
    obtain ⟨_, _, _, e4, e5, _⟩ := enter_mu (t := 48) (l := l) (k := k) hl
    by_cases h0 : (enterR 48 l k).k = 0
    · rw [e4 h0]; omega
    · rw [e5 h0]; omega
  have hs := jG_stop (sp := partSp) (l0 := enterL 48 l k) (k0 := (enterR 48 l k).k) (most := 8) part_ok he.1
  have hb := stG_bd (sp := partSp) (l0 := enterL 48 l k) (k0 := (enterR 48 l k).k) (most := 8) part_ok he.1 _ hs.1
  have lv : ∀ (l' : List (List UInt8)) (k' : Nat), 0 < l'.length → 0 < (leaveL l' k').length ∧ (leaveL l' k').length ≤ l'.length := fun l' k' h => by
    obtain ⟨_, _, f3, f4⟩ := leave_mu (l := l') (k := k') h
    by_cases h0 : leaveK l' k' = 0
    · have := f3 h0; omega
    · rw [f4 h0]; omega
  rw [hE]
  unfold endP endG
  dsimp only
  split
  · have := lv (stG partSp (enterL 48 l k) (enterR 48 l k).k (jG partSp (enterL 48 l k) (enterR 48 l k).k 8)).1.1 3 (by omega)
    dsimp only
    omega
  · have := lv (stG partSp (enterL 48 l k) (enterR 48 l k).k (jG partSp (enterL 48 l k) (enterR 48 l k).k 8)).1.1 (stG partSp (enterL 48 l k) (enterR 48 l k).k (jG partSp (enterL 48 l k) (enterR 48 l k).k 8)).1.2 (by omega)
    dsimp only
    omega
set_option maxHeartbeats 2000000 in
theorem nread_ac (b : List UInt8) (hb : b.length ≤ 100000) : ACp gs Tryz.prog 8 [bsC b] (.tup 2 (fl [subjC (readS b).1, .err (readS b).2])) := by
  have hs : sumL [b] ≤ 100000 := by simp [sumL]; exact hb
  have hgl := getS_len [b] (depthM b).2 (by simp)
  have hgl2 : [b].length = 1 := rfl
  refine ac_of 18 Tryz.func8 rfl rfl rfl (fun al w0 F0 St0 => ?_)
  refine jcr ?_
  refine jqe (jeal (n := 3) zr26 rfl fun p1 => ?_)
  refine jq jrm ?_;refine jN ?_;refine jcr ?_;refine jq jrm ?_
  refine jqe (jecS (read08_ac b (by omega)) ?_)
  rintro _ _ ⟨n, rfl, rfl⟩
  refine jq jrm ?_;refine jN ?_;refine jcr ?_;refine jq jrm ?_
  refine jqm (jmcH 1 (nget_ac n [b] (depthM b).2 (by simp) hs) ?_)
  rintro _ _ ⟨rfl, rfl⟩
  refine ⟨_, _, rfl, cZ, ?_⟩
  refine jqe (jeal (n := 3) zr26 rfl fun p3 => ?_)
  refine jqm (jmstF 3 (sF (getS [b] (depthM b).2).2) ?_ ?_)
  · exact (fun j hj => by rcases j with _ | _ | _ | j <;> first | exact cZ | omega)
  refine jN ?_;refine jcs ?_;refine jcr ?_;refine jq jrm ?_
  refine jqm (jmcH 1 (end08_ac n (getS [b] (depthM b).2).1.1 (getS [b] (depthM b).2).1.2 (by omega)) ?_)
  rintro _ _ ⟨rfl, rfl⟩
  refine ⟨_, _, rfl, cZ, ?_⟩
  refine jq jrm ?_;refine jN ?_;refine jcr ?_;refine jq jrm ?_;refine jq jre ?_;refine jN ?_;refine jcc (fun h136 => ?_) fun h136 => ?_
  · refine jcr ?_;refine jq (rd_build (n := 3) rfl zr26 pl26 rfl rfl) ?_;refine jq jrm ?_
    refine jqm (jmst 3 ?_)
    refine jq jrm ?_;refine jN ?_
    refine jR (jtr (jrt (hres := res_2 rfl (javA 3) javt) (hv := ?_)))
    rw [show readS b = (zeroS, endK (getS [b] (depthM b).2).1.1 (getS [b] (depthM b).2).1.2) by unfold readS; dsimp only; rw [if_pos (by omega)]]
    exact CEnt.tup2 (CEnt.agg rfl (fun j hj => by rcases j with _ | _ | _ | j <;> first | exact cZ | omega)) cZ
  refine jS (jtn ?_)
  refine jcr ?_;refine jqo (jrdoA 3) ?_
  refine jqm (jmst 3 ?_)
  refine jq jrm ?_;refine jN ?_
  refine jR (jrt (hres := res_2 rfl (javA 3) javt) (hv := ?_))
  rw [show readS b = ((getS [b] (depthM b).2).2, 0) by unfold readS; dsimp only; rw [if_neg (by omega)]]
  exact CEnt.tup2 (CEnt.agg rfl (fun j hj => by rcases j with _ | _ | _ | j <;> first | exact cZ | omega)) CEnt.nil
end
section
open Go.RowKit
def mB (at_ : Nat) : Nat := if at_ = 0 then 2147483727 else 2147483647
def glueN (l : List Nat) (p : List Nat × Nat) : List Nat × Nat := if p.2 ≠ 0 then ([], p.2) else (l ++ p.1, 0)
def ofN (l : List Nat) : List Int := l.map Int.ofNat
structure AtN (b : List UInt8) (a : Nat) (nums : List Nat) : Prop where
  le : a ≤ b.length
  n0 : nums.length ≤ a
  ne : a ≠ 0 → nums ≠ []
  bd : ∀ n ∈ nums, n ≤ 2147483727
  eq : numsM 2147483727 b = glueN nums (numsM (mB a) (b.drop a))
end
section
open Go.RowKit Cal

end
section
variable {gs : List Nat} [Ok9 gs]
open Go.RowKit Cal

def rqF (l : List (List UInt8)) (k : Nat) : Nat → CV := fl [lbC l, .c (.int .i64 (k : Nat))]
def rqE (n : Nat) (l : List (List UInt8)) (k : Nat) : Option Nat × Res := (some n, .blk 2 (rqF l k))
end
section
variable {gs : List Nat} [Ok9 gs]
open Go.RowKit Cal
end
section
variable {gs : List Nat} [Ok9 gs]
open Go.RowKit Cal

def SaidQ (a : AA) (b : List UInt8) : CV → List (Option Nat × Res) → Prop := fun r H' => (∃ v, r = .tup 2 (fl [valC v, .c (.int .i64 ((saidM a b).2 : Nat))]) ∧ ((saidM a b).2 = 0 → v = (saidM a b).1)) ∧ H' = []
def GetC (gs : List Nat) (P : Program) (f : FuncId) : Prop := ∀ b : List UInt8, b.length ≤ 1000000 → ACp gs P f [bsC b] (.tup 2 (fl [isC (getA b).1, .c (.int .i64 ((getA b).2 : Nat))]))
end
section
variable {gs : List Nat} [Ok9 gs]
open Go.RowKit Cal
end
section
variable {gs : List Nat}
open Go.RowKit

theorem shr7 (N i : Nat) (hi : i ≤ 5) {b : Int} (hb : b = 7 * (i : Int)) : (N : Int).fdiv (2 ^ (min b.toNat (IntKind.bits .i64))) = ((N / 128 ^ i : Nat) : Int) := by
  have e : b.toNat = 7 * i := by omega
  rw [e, show min (7 * i) (IntKind.bits .i64) = 7 * i from Nat.min_eq_left (by show 7 * i ≤ 64; omega), Int.fdiv_eq_ediv_of_nonneg _ (Int.pow_nonneg (by decide))]
  rw [show (128 : Nat) ^ i = 2 ^ (7 * i) by rw [Nat.pow_mul]]
  push_cast
  rfl
def preS (N k : Nat) : List UInt8 := if k = 0 then sepL N else sepHi (N / 128 ^ k)
theorem div_next (N i : Nat) : N / 128 ^ (i + 1) = N / 128 ^ i / 128 := by rw [Nat.pow_succ, Nat.div_div_eq_div_mul]
theorem sepHi_nil {m : Nat} (h : (sepHi m).length = 0) : m = 0 := by
  by_cases h0 : m = 0
  · exact h0
  · rw [sepHi_pos h0] at h; simp at h
def sepD (q i : Nat) : UInt8 := if i = 0 then UInt8.ofNat (q % 128) else UInt8.ofNat (q % 128 + 128)
theorem sepD_hi {q i : Nat} (h : 0 < i) : (q : Int) % 128 + 128 = ((sepD q i).toNat : Nat) := by
  rw [sepD, if_neg (by omega)]; exact (sep_int2 q).symm
theorem sepD_lo {q i : Nat} (h : i = 0) : (q : Int) % 128 = ((sepD q i).toNat : Nat) := by
  rw [sepD, if_pos h]; exact (sep_int q).symm
theorem pre_hi {N i q : Nat} {o : List UInt8} (hq : N / 128 ^ i = q) (ho : o = preS N (i + 1)) (h0 : 0 < i) (h : 0 < q % 128 ∨ 0 < o.length) : o ++ [UInt8.ofNat (q % 128 + 128)] = preS N i := by
  have e1 : preS N (i + 1) = sepHi (q / 128) := by unfold preS; rw [if_neg (by omega), div_next, hq]
  have e2 : preS N i = sepHi q := by unfold preS; rw [if_neg (by omega), hq]
  have hq0 : q ≠ 0 := fun e => by
    rw [e] at h e1
    rw [ho, e1, show (0 : Nat) / 128 = 0 from rfl, sepHi_zero] at h
    rcases h with h | h
    · exact absurd h (by decide)
    · exact absurd h (by decide)
  rw [e2, ho, e1, sepHi_pos hq0]
theorem pre_lo {N q : Nat} {o : List UInt8} (hq : N / 128 ^ 0 = q) (ho : o = preS N 1) : o ++ [UInt8.ofNat (q % 128)] = preS N 0 := by
  have e0 : q = N := by rw [← hq, Nat.pow_zero, Nat.div_one]
  rw [ho, e0]
  rfl
theorem pre_no {N i q : Nat} {o : List UInt8} (hq : N / 128 ^ i = q) (ho : o = preS N (i + 1)) (h0 : 0 < i) (h1 : ¬ 0 < q % 128) (h2 : ¬ 0 < o.length) : o = preS N i := by
  have e1 : preS N (i + 1) = sepHi (q / 128) := by unfold preS; rw [if_neg (by omega), div_next, hq]
  have e2 : preS N i = sepHi q := by unfold preS; rw [if_neg (by omega), hq]
  have e3 : q / 128 = 0 := sepHi_nil (by rw [← e1, ← ho]; omega)
  have e4 : q = 0 := by omega
  rw [ho, e1, e2, e3, e4]
theorem pre_len {N k : Nat} (hN : N < 34359738368) (hk : k ≤ 6) : (preS N k).length ≤ 5 := by
  unfold preS
  split
  · exact sepL_len hN
  · have h1 : N / 128 ^ k ≤ N := Nat.div_le_self _ _
    exact sepHi_len 5 _ (by omega)
set_option maxHeartbeats 1000000 in
theorem rsep_ac (N : Nat) (hN : N < 34359738368) : AC gs Tryz.prog 125 [] [.c (.int .i64 (N : Nat))] (OwnQ (sepL N).length 1 (sepL N).length (byF (sepL N))) := by
  refine ac_of 38 Tryz.func125 rfl rfl rfl (fun al w0 F0 St0 => ?_)
  refine jcr ?_;refine jq jrm ?_;refine jN ?_;refine jcr ?_
  refine jqe (jebl 0 1 zr5 fun p1 => ?_)
  refine jq jrm ?_;refine jN ?_;refine jcs ?_;refine jcr ?_;refine jq jrm ?_;refine jN ?_;refine jB ?_;refine l_loop (α := Nat × List UInt8 × Option Nat) [3, 4, 5, 7, 8, 9, 10, 11, 12, 13, 14, 15, 16, 17, 18, 19, 20, 21, 22, 23, 24, 25, 26, 27, 28, 29, 30, 31, 32, 33, 34, 35, 36] (fun (k, o, g) => [(4, .c (.int .i64 ((k : Int) - 1))), (3, .os 0 g 0 o.length 1)]) (fun (k, o, g) => [(g, .blk o.length (byF o))]) (fun (k, o, g) => k ≤ 6 ∧ o = preS N k) (fun (k, o, g) => k) ((6, [], p1)) ?_ (fun _ => rfl) ?_ ?_ ?_
  · exact ⟨Nat.le_refl _, by unfold preS; rw [if_neg (by decide), show N / 128 ^ 6 = 0 by omega, sepHi_zero]⟩
  · exact .cons cZ (.cons cZ .nil)
  · exact .blk rfl (fun j hj => absurd hj (Nat.not_lt_zero j)) .nil
  · rintro ⟨k, o, g⟩ ⟨(hk : k ≤ 6), (ho : o = _)⟩
    have hol : o.length ≤ 5 := by rw [ho]; exact pre_len hN hk
    refine jcs ?_;refine jcr ?_;refine jq jrm ?_;refine jq jrc ?_;refine jN ?_;refine jcc (fun h65 => ?_) fun h65 => ?_
    rotate_left
    · refine jX (jte (jte (jbx (jtn ?_))))
      obtain rfl : k = 0 := by omega
      obtain rfl : o = sepL N := ho
      refine jcr ?_;refine jq jrm ?_;refine jq jrm ?_;refine jN ?_;refine jR ?_
      exact end_O 0 (.inl rfl) (res_1 rfl (arv_tmp rfl)) rfl rfl (Nat.le_refl _) (fun _ => rfl) (fun j hj => cZ)
    refine jS (jtn ?_)
    refine jcs ?_;refine jB ?_
    obtain ⟨i, rfl⟩ : ∃ i, k = i + 1 := ⟨k - 1, by omega⟩
    obtain ⟨q, hq⟩ : ∃ q, N / 128 ^ i = q := ⟨_, rfl⟩
    refine jcr ?_;refine jq jrm ?_;refine jq jrm ?_;refine jq jra ?_;refine jq (jrv .i64 .u64) ?_;refine jq (rd_shr rfl rfl rfl (by (omega)) ((q : Int)) (by rw [← hq]; exact shr7 N i (by omega) (by omega))) ?_;refine jq jrr ?_;refine jq jrm ?_;refine jN ?_;refine jcr ?_;refine jq jrm ?_;refine jq jrc ?_;refine jq jrm ?_;refine jqsp 19 (fun g67 => ?_) fun g67 => ?_
    · refine jqs ?_;refine jqs ?_;refine jqs ?_;refine jq jrpT ?_;refine jq jrm ?_;refine jqs ?_;refine jqs ?_;refine jq jrpT ?_;refine jN ?_;refine jcT ?_;refine jcs ?_;refine jcr ?_;refine jq jrm ?_;refine jq jrc ?_;refine jN ?_;refine jcc (fun h68 => ?_) fun h68 => ?_
      rotate_left
      · refine jS (jtn ?_)
        refine jcg ?_;refine jq jrm ?_;refine jq jrm ?_;refine jq (jrv .i64 .u8) ?_
        refine jqe (jebl 1 1 zr5 fun p2 => ?_)
        refine jqm (m_appendB (l2 := [sepD q i]) rfl rfl rfl (Nat.le_refl _) (fun _ _ => cZ) (src_os rfl (.inl rfl) (by decide)) rfl (hh_bytes (.cons (CEnt.int (by exact sepD_lo (by omega))) .nil)) Tryz.underlying22 nu22 sz5 zr5 by5 rfl (by (simp; omega)) (leaf_fl rfl rfl) rfl rfl (fun p3 => ?_))
        refine jq jrm ?_;refine jN ?_
        refine jbn (jtn ?_)
        refine jcg ?_;refine jq jrm ?_;refine jq jra ?_;refine jq jrm ?_;refine jN ?_;refine jtn ?_
        refine jlend ((i, o ++ [sepD q i], p3)) ?_ ?_ (h5 := ?_) (h7 := ?_)
        · exact ⟨by omega, by obtain rfl : i = 0 := (by omega); rw [sepD, if_pos rfl]; exact pre_lo hq ho⟩
        · show i < i + 1; omega
        · exact .cons (CEnt.int (by omega)) (.cons cZ .nil)
        · exact .same .nil
      refine jcg ?_;refine jq jrm ?_;refine jq jra ?_;refine jq jrm ?_;refine jN ?_;refine jtn ?_;refine jcg ?_;refine jq jrm ?_;refine jq jrm ?_;refine jq (jrv .i64 .u8) ?_
      refine jqe (jebl 1 1 zr5 fun p2 => ?_)
      refine jqm (m_appendB (l2 := [sepD q i]) rfl rfl rfl (Nat.le_refl _) (fun _ _ => cZ) (src_os rfl (.inl rfl) (by decide)) rfl (hh_bytes (.cons (CEnt.int (by exact sepD_hi (by omega))) .nil)) Tryz.underlying22 nu22 sz5 zr5 by5 rfl (by (simp; omega)) (leaf_fl rfl rfl) rfl rfl (fun p3 => ?_))
      refine jq jrm ?_;refine jN ?_
      refine jbn (jtn ?_)
      refine jcg ?_;refine jq jrm ?_;refine jq jra ?_;refine jq jrm ?_;refine jN ?_;refine jtn ?_
      refine jlend ((i, o ++ [sepD q i], p3)) ?_ ?_ (h5 := ?_) (h7 := ?_)
      · exact ⟨by omega, by (rw [sepD, if_neg (by omega)]; exact pre_hi hq ho (by omega) (by omega))⟩
      · show i < i + 1; omega
      · exact .cons (CEnt.int (by omega)) (.cons cZ .nil)
      · exact .same .nil
    refine jq jrm ?_;refine jq jrl ?_;refine jq jrc ?_;refine jq jrpF ?_;refine jq jrm ?_;refine jqsp 24 (fun g67_2 => ?_) fun g67_2 => ?_
    · refine jqs ?_;refine jqs ?_;refine jq jrpT ?_;refine jN ?_;refine jcT ?_;refine jcs ?_;refine jcr ?_;refine jq jrm ?_;refine jq jrc ?_;refine jN ?_;refine jcc (fun h68 => ?_) fun h68 => ?_
      rotate_left
      · refine jS (jtn ?_)
        refine jcg ?_;refine jq jrm ?_;refine jq jrm ?_;refine jq (jrv .i64 .u8) ?_
        refine jqe (jebl 1 1 zr5 fun p2 => ?_)
        refine jqm (m_appendB (l2 := [sepD q i]) rfl rfl rfl (Nat.le_refl _) (fun _ _ => cZ) (src_os rfl (.inl rfl) (by decide)) rfl (hh_bytes (.cons (CEnt.int (by exact sepD_lo (by omega))) .nil)) Tryz.underlying22 nu22 sz5 zr5 by5 rfl (by (simp; omega)) (leaf_fl rfl rfl) rfl rfl (fun p3 => ?_))
        refine jq jrm ?_;refine jN ?_
        refine jbn (jtn ?_)
        refine jcg ?_;refine jq jrm ?_;refine jq jra ?_;refine jq jrm ?_;refine jN ?_;refine jtn ?_
        refine jlend ((i, o ++ [sepD q i], p3)) ?_ ?_ (h5 := ?_) (h7 := ?_)
        · exact ⟨by omega, by obtain rfl : i = 0 := (by omega); rw [sepD, if_pos rfl]; exact pre_lo hq ho⟩
        · show i < i + 1; omega
        · exact .cons (CEnt.int (by omega)) (.cons cZ .nil)
        · exact .same .nil
      refine jcg ?_;refine jq jrm ?_;refine jq jra ?_;refine jq jrm ?_;refine jN ?_;refine jtn ?_;refine jcg ?_;refine jq jrm ?_;refine jq jrm ?_;refine jq (jrv .i64 .u8) ?_
      refine jqe (jebl 1 1 zr5 fun p2 => ?_)
      refine jqm (m_appendB (l2 := [sepD q i]) rfl rfl rfl (Nat.le_refl _) (fun _ _ => cZ) (src_os rfl (.inl rfl) (by decide)) rfl (hh_bytes (.cons (CEnt.int (by exact sepD_hi (by omega))) .nil)) Tryz.underlying22 nu22 sz5 zr5 by5 rfl (by (simp; omega)) (leaf_fl rfl rfl) rfl rfl (fun p3 => ?_))
      refine jq jrm ?_;refine jN ?_
      refine jbn (jtn ?_)
      refine jcg ?_;refine jq jrm ?_;refine jq jra ?_;refine jq jrm ?_;refine jN ?_;refine jtn ?_
      refine jlend ((i, o ++ [sepD q i], p3)) ?_ ?_ (h5 := ?_) (h7 := ?_)
      · exact ⟨by omega, by (rw [sepD, if_neg (by omega)]; exact pre_hi hq ho (by omega) (by omega))⟩
      · show i < i + 1; omega
      · exact .cons (CEnt.int (by omega)) (.cons cZ .nil)
      · exact .same .nil
    refine jq jrm ?_;refine jq jrc ?_;refine jq jrpF ?_;refine jN ?_;refine jcc (fun h67 => ?_) fun h67 => ?_
    rotate_left
    · refine jS (jbn (jtn ?_))
      refine jcg ?_;refine jq jrm ?_;refine jq jra ?_;refine jq jrm ?_;refine jN ?_;refine jtn ?_
      refine jlend ((i, o, g)) ?_ ?_ (h5 := ?_) (h7 := ?_)
      · exact ⟨by omega, pre_no hq ho (by omega) (by omega) (by omega)⟩
      · show i < i + 1; omega
      · exact .cons (CEnt.int (by omega)) (.cons cZ .nil)
      · exact .same .nil
    refine jcs ?_;refine jcr ?_;refine jq jrm ?_;refine jq jrc ?_;refine jN ?_;refine jcc (fun h68 => ?_) fun h68 => ?_
    rotate_left
    · refine jS (jtn ?_)
      refine jcg ?_;refine jq jrm ?_;refine jq jrm ?_;refine jq (jrv .i64 .u8) ?_
      refine jqe (jebl 1 1 zr5 fun p2 => ?_)
      refine jqm (m_appendB (l2 := [sepD q i]) rfl rfl rfl (Nat.le_refl _) (fun _ _ => cZ) (src_os rfl (.inl rfl) (by decide)) rfl (hh_bytes (.cons (CEnt.int (by exact sepD_lo (by omega))) .nil)) Tryz.underlying22 nu22 sz5 zr5 by5 rfl (by (simp; omega)) (leaf_fl rfl rfl) rfl rfl (fun p3 => ?_))
      refine jq jrm ?_;refine jN ?_
      refine jbn (jtn ?_)
      refine jcg ?_;refine jq jrm ?_;refine jq jra ?_;refine jq jrm ?_;refine jN ?_;refine jtn ?_
      refine jlend ((i, o ++ [sepD q i], p3)) ?_ ?_ (h5 := ?_) (h7 := ?_)
      · exact ⟨by omega, by obtain rfl : i = 0 := (by omega); rw [sepD, if_pos rfl]; exact pre_lo hq ho⟩
      · show i < i + 1; omega
      · exact .cons (CEnt.int (by omega)) (.cons cZ .nil)
      · exact .same .nil
    refine jcg ?_;refine jq jrm ?_;refine jq jra ?_;refine jq jrm ?_;refine jN ?_;refine jtn ?_;refine jcg ?_;refine jq jrm ?_;refine jq jrm ?_;refine jq (jrv .i64 .u8) ?_
    refine jqe (jebl 1 1 zr5 fun p2 => ?_)
    refine jqm (m_appendB (l2 := [sepD q i]) rfl rfl rfl (Nat.le_refl _) (fun _ _ => cZ) (src_os rfl (.inl rfl) (by decide)) rfl (hh_bytes (.cons (CEnt.int (by exact sepD_hi (by omega))) .nil)) Tryz.underlying22 nu22 sz5 zr5 by5 rfl (by omega) (leaf_fl rfl rfl) rfl rfl (fun p3 => ?_))
    refine jq jrm ?_;refine jN ?_
    refine jbn (jtn ?_)
    refine jcg ?_;refine jq jrm ?_;refine jq jra ?_;refine jq jrm ?_;refine jN ?_;refine jtn ?_
    refine jlend ((i, o ++ [sepD q i], p3)) ?_ ?_ (h5 := ?_) (h7 := ?_)
    · exact ⟨by omega, by (exfalso; omega)⟩
    · show i < i + 1; omega
    · exact .cons (CEnt.int (by omega)) (.cons cZ .nil)
    · exact .same .nil
set_option maxHeartbeats 1000000 in
theorem rputO_ac (l : List Int) (hr : rightA l = true) : ACp gs Tryz.prog 92 [isC l] (bsC (putA l)) := by
  obtain ⟨hl2, hl16, hall, ha, hb⟩ := right_at hr
  have h0 := hall _ (getD_mem' (l := l) (k := 0) 0 (by omega))
  have h1 := hall _ (getD_mem' (l := l) (k := 1) 0 (by omega))
  refine ac_of 28 Tryz.func92 rfl rfl rfl (fun al w0 F0 St0 => ?_)
  refine jcr ?_;refine jq jrm ?_;refine jN ?_;refine jcs ?_;refine jcd (.rd 0 (.rd 1 (.rd 2 (.rd 3 (.rd 4 (.rd 5 (.rd 6 (.rd 7 (.one 8 (.rd 9 .done)))))))))) ?_;refine jyq jrm ?_;refine jyq (jri (i := 0)) ?_;refine jyq jrdr ?_;refine jyq jra ?_;refine jyq jrm ?_;refine jyq (jri (i := 1)) ?_;refine jyq jrdr ?_;refine jyq jra ?_
  refine jye (jecO (rsep_ac (40 * l.getD 0 0 + l.getD 1 0).toNat (by omega)) (fun p1 => ?_) (ho := rfl) (he := (.cons (se rfl (CEnt.int (by omega))) .nil)))
  refine jyq jrm ?_;refine jyd ?_;refine jtn ?_;refine jcs ?_;refine jcr ?_;refine jq jrm ?_;refine jq (jrsr (hl := (bd_some rfl (show (2 : Int) = ((2 : Nat) : Int) from rfl))) (hu := (bd_none _ _))) ?_;refine jq jrl ?_;refine jq jrm ?_;refine jN ?_;refine jB ?_;refine l_loop (α := Nat × List UInt8 × Option Nat) [3, 5, 18, 19, 20, 21, 22, 23, 24, 25, 26] (fun (i, o, g) => [(3, .os 0 g 0 o.length 1), (18, .c (.int .i64 (i : Nat)))]) (fun (i, o, g) => [(g, .blk o.length (byF o))]) (fun (i, o, g) => i ≤ l.length - 2 ∧ o = sepL (40 * l.getD 0 0 + l.getD 1 0).toNat ++ (((l.drop 2).take i).map fun n => sepL n.toNat).flatten) (fun (i, o, g) => l.length - i) ((0, sepL (40 * l.getD 0 0 + l.getD 1 0).toNat, p1)) ?_ (fun _ => rfl) ?_ ?_ ?_
  · exact ⟨Nat.zero_le _, by simp⟩
  · exact .cons cZ (.cons cZ .nil)
  · exact .same .nil
  · rintro ⟨i, o, g⟩ ⟨(hi : i ≤ l.length - 2), ho⟩
    have hol : o.length ≤ 5 + 5 * i := by
      rw [ho, List.length_append]
      have e1 := sepL_len (n := (40 * l.getD 0 0 + l.getD 1 0).toNat) (by omega)
      have e2 := sep_flat_len (l := (l.drop 2).take i) (fun n hn => hall n (List.mem_of_mem_drop (List.mem_of_mem_take hn)))
      rw [List.length_take, List.length_drop] at e2
      omega
    refine jcr ?_;refine jq jrc ?_;refine jN ?_;refine jcs ?_;refine jcc (fun h80 => ?_) fun h80 => ?_
    rotate_left
    · refine jX (jte (jte (jbx (jtn ?_))))
      refine jcr ?_;refine jq jrm ?_;refine jq jrm ?_;refine jN ?_;refine jE (freeze 0 rfl) ?_;refine jE (thawB 2 (o) rfl rfl (by rfl) rfl) ?_
      refine jR (jrt (hv := ?_))
      refine CEnt.bs ?_
      rw [ho, List.take_of_length_le (by rw [List.length_drop]; omega)]
      rfl
    refine jS (jtn ?_)
    refine jcs ?_;refine jB ?_;refine jcr ?_;refine jq jri ?_;refine jq jrdr ?_;refine jq jrm ?_;refine jN ?_
    have h3 := hall _ (getD_mem' (l := l) (k := 2 + i) 0 (by omega))
    have h4 := sepL_len (n := (l.getD (2 + i) 0).toNat) (by omega)
    refine jcg ?_;refine jq jrm ?_;refine jq jrm ?_
    refine jqe (jecO (rsep_ac (l.getD (2 + i) 0).toNat (by omega)) (fun p2 => ?_) (ho := rfl) (he := (.cons (se rfl (CEnt.int (by omega))) .nil)))
    first | refine jqm (m_appendB rfl rfl rfl (Nat.le_refl _) (fun _ _ => cZ) (src_rs rfl) rfl (fun j hj => by simp only [Nat.div_one]; exact cZ) Tryz.underlying22 nu22 sz5 zr5 by5 rfl (by first | omega | (simp; done) | (simp; omega) | (simp at *; omega)) (fun j hj => rfl) rfl rfl (fun p3 => ?_)) | refine jqm (m_appendB rfl rfl rfl (Nat.le_refl _) (fun _ _ => cZ) (src_str rfl) rfl (fun j hj => cZ) Tryz.underlying22 nu22 sz5 zr5 by5 rfl (by first | omega | (simp; done) | (simp; omega) | (simp at *; omega)) (fun j hj => rfl) rfl rfl (fun p3 => ?_)) | refine jqm (m_appendB rfl rfl rfl (Nat.le_refl _) (fun _ _ => cZ) (src_os rfl (.inl rfl) (by omega)) rfl (fun j hj => by rw [Nat.zero_add]; exact cZ) Tryz.underlying22 nu22 sz5 zr5 by5 rfl (by omega) (fun j hj => rfl) rfl rfl (fun p3 => ?_))
    refine jq jrm ?_;refine jN ?_
    refine jbn (jtn ?_)
    refine jcg ?_;refine jq jra ?_;refine jq jrm ?_;refine jN ?_;refine jtn ?_
    refine jlend ((i + 1, o ++ sepL (l.getD (2 + i) 0).toNat, p3)) ?_ ?_ (h5 := ?_) (h7 := ?_)
    · exact ⟨by omega, by rw [ho, sep_take (by rw [List.length_drop]; omega), List.append_assoc]⟩
    · show l.length - (i + 1) < l.length - i; omega
    · exact .cons cZ (.cons (CEnt.int (by omega)) .nil)
    · exact .same .nil
end
section
open Go.RowKit Cal
set_option maxHeartbeats 1000000 in
theorem rbody78_ac {gs : List Nat} (v : VV) (hv : OkV v) (h78 : v.kind = 7 ∨ v.kind = 8) : AC gs Tryz.prog 57 [] [valC v] (BodyQ v) := by
  have hvt := hv.t
  refine ac_of 77 Tryz.func57 rfl rfl rfl (fun al w0 F0 St0 => ?_)
  refine jcr ?_
  refine jqe (jebx 5 fun p1 => ?_)
  refine jq jrm ?_;refine jq jrm ?_;refine jq jrm ?_;refine jN ?_;refine jcs ?_;refine jcr ?_;refine jq (jrfa 0 1 false) ?_;refine jqo jrdo ?_;refine jN ?_;refine jB ?_;refine jcr ?_;refine jq jrc ?_;refine jq jrm ?_;refine jN ?_;refine jcc (fun h31 => ?_) fun h31 => ?_
  · exfalso; omega
  refine jcr ?_;refine jq jrc ?_;refine jq jrm ?_;refine jN ?_;refine jcc (fun h33 => ?_) fun h33 => ?_
  · exfalso; omega
  refine jcr ?_;refine jq jrc ?_;refine jq jrm ?_;refine jN ?_;refine jcc (fun h35 => ?_) fun h35 => ?_
  · exfalso; omega
  refine jcr ?_;refine jq jrc ?_;refine jq jrm ?_;refine jN ?_;refine jcc (fun h40 => ?_) fun h40 => ?_
  · exfalso; omega
  refine jcr ?_;refine jq jrc ?_;refine jq jrm ?_;refine jN ?_;refine jcc (fun h42 => ?_) fun h42 => ?_
  · refine jcs ?_;refine jcd (.rd 0 (.rd 1 (.rd 3 (.rd 4 (.rd 5 (.rd 6 (.two 2 (.one 7 (.rd 8 (.rd 9 (.rd 10 .done)))) 7 (.rd 8 (.one 2 (.rd 9 (.rd 10 .done))))))))))) ?_;refine jyq (jrfa 4 1 false) ?_;refine jyo jrdo ?_;refine jyq (jrfa 4 1 false) ?_;refine jyo jrdo ?_;refine jyq (jrfa 1 1 false) ?_;refine jyo jrdo ?_;refine jytwo ?_ ?_
    · refine jye (jecv ?_)
      refine jye (jecP (rasked_ac v.t v.n (by omega)) ?_)
      refine jyq jrm ?_;refine jyq jrm ?_;refine jyq jrm ?_;refine jyd ?_;refine jtn ?_
      refine jR (jbr (jtr ?_))
      exact end_ownV (.inl rfl) [] (by decide) rfl (res_3 rfl javt javt javt) cZ (bodyQ (b' := v.t) (by unfold bodyV; rw [if_neg (by omega), if_neg (by omega), if_neg (by omega), if_neg (by omega), if_pos (by omega)]) (fun h => by rw [if_pos h]))
    · refine jye (jecP (rasked_ac v.t v.n (by omega)) ?_)
      refine jyq jrm ?_
      refine jye (jecv ?_)
      refine jyq jrm ?_;refine jyq jrm ?_;refine jyd ?_;refine jtn ?_
      refine jR (jbr (jtr ?_))
      exact end_ownV (.inl rfl) [] (by decide) rfl (res_3 rfl javt javt javt) cZ (bodyQ (b' := v.t) (by unfold bodyV; rw [if_neg (by omega), if_neg (by omega), if_neg (by omega), if_neg (by omega), if_pos (by omega)]) (fun h => by rw [if_pos h]))
  refine jcr ?_;refine jq jrc ?_;refine jq jrm ?_;refine jN ?_;refine jcc (fun h44 => ?_) fun h44 => ?_
  rotate_left
  · exfalso; omega
  refine jcr ?_;refine jq (jrfa 4 1 false) ?_;refine jqo jrdo ?_
  refine jqe (jecP (rparse_ac v.t (by omega)) ?_)
  refine jq jrm ?_;refine jq jrx ?_;refine jq jrx ?_;refine jq jrm ?_;refine jq jrm ?_;refine jN ?_;refine jcs ?_;refine jcr ?_;refine jq jrm ?_;refine jq jrc ?_;refine jN ?_;refine jcc (fun h46 => ?_) fun h46 => ?_
  · refine jcr ?_;refine jq jrm ?_;refine jq jrm ?_;refine jq jrm ?_;refine jq jrm ?_;refine jN ?_
    refine jR (jtr (jbr (jtr ?_)))
    exact end_ownV (.inl rfl) [] (by decide) rfl (res_3 rfl javt javt javt) (CEnt.tup3 cZ CEnt.nilB cZ) (bodyQ (by unfold bodyV; rw [if_neg (by omega), if_neg (by omega), if_neg (by omega), if_neg (by omega), if_neg (by omega), if_pos (by omega)]) (fun h => by omega))
  refine jS (jtn ?_)
  have hp0 : (parseM v.t).2 = 0 := by omega
  refine jcr ?_;refine jq jrm ?_
  refine jqe (jecP (rputO_ac (parseM v.t).1 (parse_ok hp0)) ?_)
  refine jq jrm ?_;refine jq jrm ?_;refine jq jrm ?_;refine jN ?_
  refine jR (jbr (jtr ?_))
  exact end_ownV (.inl rfl) [] (by decide) rfl (res_3 rfl javt javt javt) cZ (bodyQ (e := 0) (by unfold bodyV; rw [if_neg (by omega), if_neg (by omega), if_neg (by omega), if_neg (by omega), if_neg (by omega), if_pos (by omega), hp0]) (fun h => by unfold putM; rw [if_pos hp0]))
theorem rdoW78_ac {gs : List Nat} (n : Nat) (s : R8) (v : VV) (hs : OkRD s) (hv : OkV v) (hk : v.kind = 1 ∨ v.kind = 2 ∨ v.kind = 7 ∨ v.kind = 8) : AC gs Tryz.prog 25 [rwO n s] [.op 0 (some n) 0, valC v] (fun r H' => r = .c (.tuple #[]) ∧ H' = [rwO n (rdoS v s)]) := rdoWB_ac n s v hs hv fun h1 h2 _ => rbody78_ac v hv (by omega)
end
section
variable {gs : List Nat} [OkG gs] [OkT gs]
open Go.RowKit Cal

theorem rputS_bad {s : S3} {r : R8} (h : r.e ≠ 0) : rputS9 s r = r := by
  unfold rputS9
  split
  · exact rdoAll_bad _ h
  · rfl
set_option maxHeartbeats 4000000 in
theorem rnput_ac {gs : List Nat} (n : Nat) {i0 : Nat} {r : R8} {w : W8} (hI : Inv8 i0 r w) (hi0 : i0 ≤ 800) (s : S3) : AC gs Tryz.prog 28 [rwO n r] [.op 0 (some n) 0, subjC s] (fun x H' => x = .c (.tuple #[]) ∧ H' = [rwO n (rputS9 s r)]) := by
  have I1 := inv_do hI (small_w1 (t := 48) (by decide))
  refine ac_of 54 Tryz.func28 rfl rfl rfl (fun al w0 F0 St0 => ?_)
  refine jcr ?_
  refine jqe (jebx 3 fun p1 => ?_)
  refine jN ?_;refine code_openRW 0 rfl fun gr => ?_;refine code_join (α := Unit) [6, 7, 8, 9, 10, 11, 12, 13, 14, 15, 16, 17, 18] (fun _ => []) (fun _ => [(some n, .blk 3 (rwB ⟨r.tags, r.rows, if r.e = 0 ∧ rightS s = false then 9 else r.e⟩ 2 gr)), (p1, .blk 3 (sF s)), (gr, .blk r.rows.length (rowsF r.rows))]) (fun _ => True) (fun _ => rfl) ?_ ?_
  · refine jcr ?_;refine jq jrm ?_;refine jq jrnc ?_;refine jq (jrfa 2 1 false) ?_;refine jqo jrdo ?_;refine jq jrc ?_;refine jq jrm ?_;refine jqsp 11 (fun g95 => ?_) fun g95 => ?_
    rotate_left
    · refine jqs ?_;refine jqs ?_;refine jqs ?_;refine jq jrpF ?_;refine jN ?_;refine jcF ?_
      refine jS (jtn ?_)
      refine jjend (()) ?_ (h5 := ?_) (h7 := ?_)
      · trivial
      · exact .nil
      · show HEnt _ [(some n, .blk 3 (rwB ⟨r.tags, r.rows, if r.e = 0 ∧ rightS s = false then 9 else r.e⟩ 2 gr)), (p1, .blk 3 (sF s)), (gr, .blk r.rows.length (rowsF r.rows))]
        first
        | (rw [if_pos ⟨by omega, by simp_all⟩]; exact HEnt.refl _)
        | (rw [if_neg (by rintro ⟨_, h⟩; simp_all)]; exact HEnt.refl _)
        | (rw [if_neg (by omega)]; exact HEnt.refl _)
    refine jqo (jrdoA 3) ?_
    refine jqe (jecP (rright_ac s) ?_)
    refine jq jrn ?_;refine jq jrpT ?_;refine jN ?_;refine jcc (fun h95 => ?_) fun h95 => ?_
    rotate_left
    · refine jS (jtn ?_)
      refine jjend (()) ?_ (h5 := ?_) (h7 := ?_)
      · trivial
      · exact .nil
      · show HEnt _ [(some n, .blk 3 (rwB ⟨r.tags, r.rows, if r.e = 0 ∧ rightS s = false then 9 else r.e⟩ 2 gr)), (p1, .blk 3 (sF s)), (gr, .blk r.rows.length (rowsF r.rows))]
        first
        | (rw [if_pos ⟨by omega, by simp_all⟩]; exact HEnt.refl _)
        | (rw [if_neg (by rintro ⟨_, h⟩; simp_all)]; exact HEnt.refl _)
        | (rw [if_neg (by omega)]; exact HEnt.refl _)
    refine jcg ?_;refine jq jrm ?_;refine jq jrnc ?_;refine jq (jrfa 2 1 false) ?_
    refine jqm (jmstF 1 (rwB ⟨r.tags, r.rows, 9⟩ 2 gr) ?_ ?_)
    · exact (fun j hj => by rcases j with _ | _ | _ | j <;> exact cZ)
    refine jN ?_;refine jtn ?_
    refine jjend (()) ?_ (h5 := ?_) (h7 := ?_)
    · trivial
    · exact .nil
    · show HEnt _ [(some n, .blk 3 (rwB ⟨r.tags, r.rows, if r.e = 0 ∧ rightS s = false then 9 else r.e⟩ 2 gr)), (p1, .blk 3 (sF s)), (gr, .blk r.rows.length (rowsF r.rows))]
      first
      | (rw [if_pos ⟨by omega, by simp_all⟩]; exact HEnt.refl _)
      | (rw [if_neg (by rintro ⟨_, h⟩; simp_all)]; exact HEnt.refl _)
      | (rw [if_neg (by omega)]; exact HEnt.refl _)
  · rintro u _
    obtain ⟨e0, he0⟩ : ∃ e0, e0 = (if r.e = 0 ∧ rightS s = false then 9 else r.e) := ⟨_, rfl⟩
    have hbad : e0 ≠ 0 → rputS9 s r = ⟨r.tags, r.rows, e0⟩ := fun h => by
      by_cases hc : r.e = 0 ∧ rightS s = false
      · rw [if_pos hc] at he0
        unfold rputS9
        rw [if_neg (by rw [hc.2]; decide), if_pos hc.1, he0]
      · rw [if_neg hc] at he0
        rw [rputS_bad (by omega), he0]
    have hgood : e0 = 0 → r.e = 0 ∧ rightS s = true := fun h => by
      by_cases hc : r.e = 0 ∧ rightS s = false
      · rw [if_pos hc] at he0; omega
      · rw [if_neg hc] at he0
        refine ⟨by omega, ?_⟩
        cases hb : rightS s with
        | true => rfl
        | false => exact absurd ⟨by omega, hb⟩ hc
    rw [← he0]
    refine jcs ?_;refine jcr ?_;refine jq jrm ?_;refine jq jrnc ?_;refine jq (jrfa 2 1 false) ?_;refine jqo jrdo ?_;refine jq jrc ?_;refine jN ?_;refine jcc (fun h98 => ?_) fun h98 => ?_
    · refine jR (jtr ?_)
      rw [hbad (by have h : ((e0 : Nat) : Int) ≠ 0 := h98; omega)]
      exact end_closeRW (.inl rfl) n ⟨r.tags, r.rows, e0⟩ 2 (res_0 rfl) cZ rfl rfl rfl (by exact cZ) (by exact CEnt.osI rfl) (by exact cZ) (Nat.le_refl _) (fun _ _ => by exact cZ)
    refine jS (jtn ?_)
    obtain ⟨hre, hr⟩ := hgood (by have h : ¬ (((e0 : Nat) : Int) ≠ 0) := h98; omega)
    obtain ⟨hg1, hg2⟩ := good_parts hr
    have hG : ∀ j, j ≤ (partsS s).length → ∃ w', Inv8 (i0 + 1 + 4 * j) (rdoAll (((partsS s).take j).flatMap pv) (rdoS (w1 48) r)) w' := fun j hj => by
      refine ⟨_, inv_mono (inv_all (((partsS s).take j).flatMap pv) I1 fun v hv => ?_) ?_⟩
      · obtain ⟨p, hp, hv⟩ := List.mem_flatMap.1 hv
        have h := hg1 p (List.mem_of_mem_take hp)
        exact small_pv (by omega) (by omega) v hv
      · rw [pvs_len, List.length_take]; omega
    have hS : ∀ j, j < (partsS s).length → rdoAll (((partsS s).take (j + 1)).flatMap pv) (rdoS (w1 48) r) = rdoAll (pv ((partsS s).getD j ([], []))) (rdoAll (((partsS s).take j).flatMap pv) (rdoS (w1 48) r)) := fun j hj => by
      rw [List.take_succ_eq_append_getElem hj, List.flatMap_append, rdoAll_app, List.getD_eq_getElem?_getD, List.getElem?_eq_getElem hj]
      simp
    have hE : rputS9 s r = rdoS w2 (rdoAll ((partsS s).flatMap pv) (rdoS (w1 48) r)) := by
      unfold rputS9
      rw [if_pos hr]
      show rdoAll ((partsS s).flatMap pv ++ [w2]) (rdoS (w1 48) r) = _
      rw [rdoAll_app]
      rfl
    refine jE (closeRW n r 0 2 rfl rfl rfl cZ (CEnt.osI rfl) (CEnt.int (by omega)) (Nat.le_refl _) (fun _ _ => cZ)) ?_;refine jE (pick_ent (H' := [rwO n r, (p1, .blk 3 (sF s))]) [0, 1] (by decide) rfl) ?_;refine jcr ?_;refine jq jrm ?_;refine jq (rd_build (n := 5) rfl zr63 pl63 rfl rfl) ?_
    refine jqm (jmcH 0 (rdoW78_ac n r (w1 48) (inv_okR hI (by omega)) (small_w1 (by decide)).ok (.inl rfl)) ?_ (ho := rfl) (he := (.cons (se rfl CEnt.opI) (.cons (se rfl (CEnt.agg rfl (fun j hj => by rcases j with _ | _ | _ | _ | _ | j <;> first | exact cZ | exact CEnt.nilB | omega))) .nil))))
    rintro _ _ ⟨rfl, rfl⟩
    refine ⟨_, _, rfl, cZ, ?_⟩
    refine jN ?_;refine jcs ?_;refine jcr ?_;refine jqo (jrdoA 3) ?_
    refine jqe (jecP (rparts_ac s hr) ?_)
    refine jq jrl ?_;refine jq jrm ?_;refine jN ?_;refine jB ?_;refine l_loop (α := Nat) [5, 30, 31, 32, 33, 34, 35, 36, 37, 38, 39, 40, 41, 42, 43, 44, 45, 46, 47, 48, 49, 50] (fun i => [(30, .c (.int .i64 (i : Nat)))]) (fun i => [rwO n (rdoAll (((partsS s).take i).flatMap pv) (rdoS (w1 48) r)), (p1, .blk 3 (sF s))]) (fun i => i ≤ (partsS s).length) (fun i => (partsS s).length - i) (0) ?_ (fun _ => rfl) ?_ ?_ ?_
    · exact Nat.zero_le _
    · exact .cons cZ .nil
    · exact HEnt.refl _
    · rintro i (hi : i ≤ (partsS s).length)
      refine jcr ?_;refine jq jrc ?_;refine jN ?_;refine jcs ?_;refine jcc (fun h102 => ?_) fun h102 => ?_
      rotate_left
      · refine jX (jte (jte (jbx (jtn ?_))))
        have hie : i = (partsS s).length := by omega
        obtain ⟨w', J0⟩ := hG i hi
        subst hie
        rw [List.take_length] at *
        refine jcg ?_;refine jq jrm ?_;refine jq (rd_build (n := 5) rfl zr63 pl63 rfl rfl) ?_
        refine jqm (jmcH 0 (rdoW78_ac n _ w2 (inv_okR J0 (by omega)) small_w2.ok (.inr (.inl rfl))) ?_ (ho := rfl) (he := (.cons (se rfl CEnt.opI) (.cons (se rfl (CEnt.agg rfl (fun j hj => by rcases j with _ | _ | _ | _ | _ | j <;> first | exact cZ | exact CEnt.nilB | omega))) .nil))))
        rintro _ _ ⟨rfl, rfl⟩
        refine ⟨_, _, rfl, cZ, ?_⟩
        refine jN ?_
        rw [hE]
        exact end_H (.inr rfl) rfl (res_0 rfl) cZ
      refine jS (jtn ?_)
      refine jcs ?_;refine jB ?_;refine jcr ?_;refine jq jri ?_;refine jq (jrdrA 2) ?_
      refine jqe (jeal (n := 2) zr91 rfl fun p3 => ?_)
      refine jqm (jmstF 2 (partE ((partsS s).getD i ([], []))) ?_ ?_)
      · exact (fun j hj => by rcases j with _ | _ | j <;> first | exact cZ | omega)
      refine jN ?_
      have hm : (partsS s).getD i ([], []) ∈ partsS s := by
        rw [List.getD_eq_getElem?_getD, List.getElem?_eq_getElem (by omega)]
        exact List.getElem_mem _
      obtain ⟨_, hp1, hp2⟩ := hg1 _ hm
      obtain ⟨w', J0⟩ := hG i hi
      have J1 := inv_do J0 (small_w1 (t := 48) (by decide))
      have J2 := inv_do J1 (small_v8 (t := ((partsS s).getD i ([], [])).1) (by omega))
      have J3 := inv_do J2 (small_v7 (t := ((partsS s).getD i ([], [])).2) (by omega))
      refine jcr ?_;refine jq jrm ?_;refine jq (rd_build (n := 5) rfl zr63 pl63 rfl rfl) ?_
      refine jqm (jmcH 0 (rdoW78_ac n _ (w1 48) (inv_okR J0 (by omega)) (small_w1 (by decide)).ok (.inl rfl)) ?_ (ho := rfl) (he := (.cons (se rfl CEnt.opI) (.cons (se rfl (CEnt.agg rfl (fun j hj => by rcases j with _ | _ | _ | _ | _ | j <;> first | exact cZ | exact CEnt.nilB | omega))) .nil))))
      rintro _ _ ⟨rfl, rfl⟩
      refine ⟨_, _, rfl, cZ, ?_⟩
      refine jN ?_;refine jcr ?_;refine jq jrm ?_;refine jq (jrfa 0 1 false) ?_;refine jqo jrdo ?_;refine jq (rd_build (n := 5) rfl zr63 pl63 rfl rfl) ?_
      refine jqm (jmcH 0 (rdoW78_ac n _ (v8 ((partsS s).getD i ([], [])).1) (inv_okR J1 (by omega)) (small_v8 (by omega)).ok (.inr (.inr (.inr rfl)))) ?_ (ho := rfl) (he := (.cons (se rfl CEnt.opI) (.cons (se rfl (CEnt.agg rfl (fun j hj => by rcases j with _ | _ | _ | _ | _ | j <;> first | exact cZ | exact CEnt.nilB | omega))) .nil))))
      rintro _ _ ⟨rfl, rfl⟩
      refine ⟨_, _, rfl, cZ, ?_⟩
      refine jN ?_;refine jcr ?_;refine jq jrm ?_;refine jq (jrfa 1 1 false) ?_;refine jqo jrdo ?_;refine jq (rd_build (n := 5) rfl zr63 pl63 rfl rfl) ?_
      refine jqm (jmcH 0 (rdoW78_ac n _ (v7 ((partsS s).getD i ([], [])).2 64) (inv_okR J2 (by omega)) (small_v7 (by omega)).ok (.inr (.inr (.inl rfl)))) ?_ (ho := rfl) (he := (.cons (se rfl CEnt.opI) (.cons (se rfl (CEnt.agg rfl (fun j hj => by rcases j with _ | _ | _ | _ | _ | j <;> first | exact cZ | exact CEnt.nilB | omega))) .nil))))
      rintro _ _ ⟨rfl, rfl⟩
      refine ⟨_, _, rfl, cZ, ?_⟩
      refine jN ?_;refine jcg ?_;refine jq jrm ?_;refine jq (rd_build (n := 5) rfl zr63 pl63 rfl rfl) ?_
      refine jqm (jmcH 0 (rdoW78_ac n _ w2 (inv_okR J3 (by omega)) small_w2.ok (.inr (.inl rfl))) ?_ (ho := rfl) (he := (.cons (se rfl CEnt.opI) (.cons (se rfl (CEnt.agg rfl (fun j hj => by rcases j with _ | _ | _ | _ | _ | j <;> first | exact cZ | exact CEnt.nilB | omega))) .nil))))
      rintro _ _ ⟨rfl, rfl⟩
      refine ⟨_, _, rfl, cZ, ?_⟩
      refine jN ?_
      refine jbn (jtn ?_)
      refine jcg ?_;refine jq jra ?_;refine jq jrm ?_;refine jN ?_;refine jtn ?_
      refine jlend (i + 1) ?_ ?_ (h5 := ?_) (h7 := ?_)
      · show i + 1 ≤ (partsS s).length; omega
      · show (partsS s).length - (i + 1) < (partsS s).length - i; omega
      · exact .cons (CEnt.int (by omega)) .nil
      · rw [hS i (by omega)]; exact HEnt.refl _
theorem rnbytes_ac {gs : List Nat} (s : S3) : ACp gs Tryz.prog 12 [subjC s] (bsC (doneB (putS s w00))) := by
  have I1 := inv_putS inv_00 s
  have hsd := same_done I1.same
  rw [← hsd.2]
  refine ac_of 17 Tryz.func12 rfl rfl rfl (fun al w0 F0 St0 => ?_)
  refine jcr ?_
  refine jqe (jebx 3 fun p1 => ?_)
  refine jq jrm ?_;refine jN ?_;refine jcr ?_;refine jq (rd_build (n := 3) rfl zr59 pl59 rfl rfl) ?_
  refine jqe (jebx 3 fun p2 => ?_)
  refine jq jrm ?_;refine jN ?_;refine code_knowG (know_op 7 rfl) fun hn => ?_
  obtain ⟨n, rfl⟩ := hn
  refine jE (newRW n 1 rfl cZ cZ cZ) ?_
  dsimp only [List.set_cons_zero, List.set_cons_succ, List.cons_append, List.nil_append, List.length_cons, List.length_nil, Nat.zero_add, Nat.reduceAdd]
  refine jcr ?_;refine jq jrm ?_;refine jqo (jrdoA 3) ?_
  refine jqm (jmcH 1 (rnput_ac n inv_00 (by decide) s) ?_)
  rintro _ _ ⟨rfl, rfl⟩
  refine ⟨_, _, rfl, cZ, ?_⟩
  refine jN ?_;refine jcr ?_;refine jq jrm ?_
  refine jqm (jmcH 1 (rdone08_ac n (rputS9 s r00) (inv_okR I1 (by decide))) ?_)
  rintro _ _ ⟨rfl, rfl⟩
  refine ⟨_, _, rfl, cZ, ?_⟩
  refine jq jrm ?_;refine jq jrx ?_;refine jq jrx ?_;refine jq jrm ?_;refine jq jrm ?_;refine jN ?_;refine jcr ?_;refine jq jrm ?_;refine jq jrm ?_;refine jN ?_
  refine jR (jrt (hv := cZ))
def zS : Nat → CV := fun _ => .top
end
section
variable {gs : List Nat} [OkG gs] [OkT gs]
open Go.RowKit Cal

theorem long09_ac {gs : List Nat} (s : S3) : ∃ b : Bool, ACp gs Tryz.prog 13 [subjC s] (.c (.bool b)) := by
  refine ⟨decide (200 < s.2.1.length) || decide (200 < s.2.2.length), ?_⟩
  refine ac_of 13 Tryz.func13 rfl rfl rfl (fun al w0 F0 St0 => ?_)
  refine jcr ?_
  refine jqe (jebx 3 fun p1 => ?_)
  refine jq jrm ?_;refine jN ?_;refine jcr ?_;refine jq (jrfa 1 1 false) ?_;refine jqo jrdo ?_;refine jq jrls ?_;refine jq jrc ?_;refine jq jrm ?_;refine jqsp 7 (fun g18 => ?_) fun g18 => ?_
  · refine jqs ?_;refine jqs ?_;refine jqs ?_;refine jqs ?_;refine jq jrpT ?_;refine jq jrm ?_;refine jN ?_
    refine jR (jrt (hv := ?_))
    refine CEnt.bool ?_
    (rw [Bool.eq_iff_iff]; simp; omega)
  refine jq (jrfa 2 1 false) ?_;refine jqo jrdo ?_;refine jq jrls ?_;refine jq jrc ?_;refine jq jrpF ?_;refine jq jrm ?_;refine jN ?_
  refine jR (jrt (hv := ?_))
  refine CEnt.bool ?_
  (rw [Bool.eq_iff_iff]; simp; omega)
theorem text_small {s : S3} (h : rightS s = true) : (textS s).length ≤ 1000000 := by
  have h1 := right_k h
  have h2 := word_len s.1
  unfold textS
  rw [List.length_append, List.length_cons]
  split
  · omega
  · rw [List.length_append, List.length_cons]; omega
theorem sameParts_ac {gs : List Nat} (l : List P2) (hl : l.length ≤ 1000000) : ACp gs Tryz.prog 21 [partsC l, partsC l] (.c (.bool true)) := by
  refine ac_of 26 Tryz.func21 rfl rfl rfl (fun al w0 F0 St0 => ?_)
  refine jcr ?_;refine jq jrm ?_;refine jN ?_;refine jcs ?_;refine jcr ?_;refine jq jrm ?_;refine jq jrl ?_;refine jq jrm ?_;refine jq jrl ?_;refine jq jrc ?_;refine jN ?_;refine jcc (fun h22 => ?_) fun h22 => ?_
  · exfalso; exact absurd rfl h22
  refine jS (jtn ?_)
  refine jcs ?_;refine jcr ?_;refine jq jrm ?_;refine jq jrl ?_;refine jq jrm ?_;refine jN ?_;refine jB ?_;refine l_loop (α := Nat) [4, 5, 13, 14, 15, 16, 17, 18, 19, 20, 21, 22, 23, 24, 25] (fun i => [(13, .c (.int .i64 (i : Nat)))]) (fun _ => []) (fun i => i ≤ l.length) (fun i => l.length - i) (0) ?_ (fun _ => rfl) ?_ ?_ ?_
  · exact Nat.zero_le _
  · exact .cons cZ .nil
  · exact .nil
  · rintro i (hi : i ≤ l.length)
    refine jcr ?_;refine jq jrc ?_;refine jN ?_;refine jcs ?_;refine jcc (fun h25 => ?_) fun h25 => ?_
    rotate_left
    · refine jX (jte (jte (jbx (jtn ?_))))
      refine jcr ?_;refine jq jrm ?_;refine jN ?_
      refine jR (jrt (hv := cZ))
    refine jS (jtn ?_)
    refine jcs ?_;refine jB ?_;refine jcr ?_;refine jq jrm ?_;refine jq jrm ?_;refine jN ?_;refine jcs ?_;refine jcd (.rd 0 (.rd 1 (.rd 2 (.rd 3 (.rd 4 (.rd 5 (.rd 6 (.rd 7 (.rd 8 .done))))))))) ?_;refine jyq jrm ?_;refine jyq jrm ?_;refine jyq jri ?_;refine jyq (jrdrA 2) ?_;refine jyq jrm ?_;refine jyq jrm ?_;refine jyq jri ?_;refine jyq (jrdrA 2) ?_;refine jyq (rd_neAgg rfl rfl rfl Tryz.underlying91 (by kernel_rfl) (by kernel_rfl) (.str Tryz.underlying9 (by decide) rfl rfl (.str Tryz.underlying9 (by decide) rfl rfl .nil)) rfl) ?_;refine jyd ?_;refine jtn ?_;refine jcc (fun h26 => ?_) fun h26 => ?_
    · refine jcr ?_;refine jq jrm ?_;refine jN ?_
      refine jR (jbr (jtr (jtr (jbr (jtr (jrt (hv := ?_)))))))
      exfalso
      simp_all
    refine jS (jbn (jtn ?_))
    refine jcg ?_;refine jq jra ?_;refine jq jrm ?_;refine jN ?_;refine jtn ?_
    refine jlend (i + 1) ?_ ?_ (h5 := ?_) (h7 := ?_)
    · show i + 1 ≤ l.length; omega
    · show l.length - (i + 1) < l.length - i; omega
    · exact .cons (CEnt.int (by omega)) .nil
    · exact .nil
set_option maxHeartbeats 2000000 in
theorem namesTell_ac (s : S3) : ACp gs Tryz.prog 4 [subjC s] (.c (.bool true)) := by
  have hp := nparts_ac (gs := gs) s
  have ht := ntext_ac (gs := gs) s
  have hb := nbytes_ac (gs := gs) s
  obtain ⟨bl, hlong⟩ := long09_ac (gs := gs) s
  by_cases hr : rightS s = true
  · have ho := nof_ac (gs := gs) (partsS s) (by have := (good_parts hr).2; omega)
    have hy := nparse_ac (gs := gs) (textS s) (text_small hr)
    have hz := nread_ac (gs := gs) (subB s) (by have := (sub_len hr).2; omega)
    have hrb := rnbytes_ac (gs := gs) s
    have hrp := rparts_ac (gs := gs) s hr
    have hrt := rtext_ac09 (gs := gs) s hr
    rw [if_pos hr, if_pos hr] at hp ht
    rw [(putS_new hr).1, (putS_new hr).2] at hb
    rw [(ofP_iff _ _).2 ⟨hr, rfl⟩] at ho
    rw [parse_textS hr] at hy
    rw [readS_fwd hr] at hz
    rw [(putS_new hr).2] at hrb
    have h1 := nright_ac (gs := gs) s
    have h2 := rright_ac (gs := gs) s
    rw [hr] at h1 h2
    refine ac_of 141 Tryz.func4 rfl rfl rfl (fun al w0 F0 St0 => ?_)
    refine jcr ?_
    refine jqe (jebx 3 fun p1 => ?_)
    refine jq jrm ?_;refine jN ?_;refine jcs ?_;refine jcr ?_
    refine jqe (jecP alive09_ac ?_)
    refine jq jrn ?_;refine jN ?_;refine jcc (fun h35 => ?_) fun h35 => ?_
    · exfalso; exact absurd h35 (by decide)
    refine jS (jtn ?_)
    refine jcs ?_;refine jcr ?_;refine jqo (jrdoA 3) ?_
    refine jqe (jecP hlong ?_)
    refine jN ?_;refine jcc (fun h38 => ?_) fun h38 => ?_
    · refine jcr ?_;refine jq jrm ?_;refine jN ?_
      refine jR (jtr (jrt (hv := cZ)))
    refine jS (jtn ?_)
    refine jcr ?_;refine jqo (jrdoA 3) ?_
    refine jqe (jecP hp ?_)
    refine jq jrm ?_;refine jq jrx ?_;refine jq jrx ?_;refine jq jrm ?_;refine jq jrm ?_;refine jN ?_;refine jcr ?_;refine jqo (jrdoA 3) ?_
    refine jqe (jecP ht ?_)
    refine jq jrm ?_;refine jq jrx ?_;refine jq jrx ?_;refine jq jrm ?_;refine jq jrm ?_;refine jN ?_;refine jcr ?_;refine jqo (jrdoA 3) ?_
    refine jqe (jecP hb ?_)
    refine jq jrm ?_;refine jq jrx ?_;refine jq jrx ?_;refine jq jrm ?_;refine jq jrm ?_;refine jN ?_;refine jcs ?_;refine jcs ?_;refine jcd (.rd 0 (.rd 2 (.one 1 (.one 3 (.rd 4 .done))))) ?_;refine jyo (jrdoA 3) ?_;refine jyo (jrdoA 3) ?_
    refine jye (jecP h1 ?_)
    refine jye (jecP h2 ?_)
    refine jyq jrcb ?_;refine jyd ?_;refine jtn ?_;refine jcc (fun h44 => ?_) fun h44 => ?_
    · exfalso; simp at h44
    refine jS (jtn ?_)
    refine jcs ?_;refine jcr ?_;refine jqo (jrdoA 3) ?_
    refine jqe (jecP h2 ?_)
    refine jq jrn ?_;refine jN ?_;refine jcc (fun h47 => ?_) fun h47 => ?_
    · exfalso; simp at h47
    refine jS (jtn ?_)
    refine jcr ?_;refine jq jrm ?_
    refine jqe (jecP ho ?_)
    refine jq jrm ?_;refine jq jrx ?_;refine jq jrx ?_
    refine jqe (jeal (n := 3) zr26 rfl fun p2 => ?_)
    refine jqm (jmst 3 ?_)
    refine jq jrm ?_;refine jN ?_;refine jcr ?_;refine jq jrm ?_
    refine jqe (jecP hy ?_)
    refine jq jrm ?_;refine jq jrx ?_;refine jq jrx ?_
    refine jqe (jeal (n := 3) zr26 rfl fun p3 => ?_)
    refine jqm (jmst 3 ?_)
    refine jq jrm ?_;refine jN ?_;refine jcr ?_;refine jq jrm ?_
    refine jqe (jecP hz ?_)
    refine jq jrm ?_;refine jq jrx ?_;refine jq jrx ?_
    refine jqe (jeal (n := 3) zr26 rfl fun p4 => ?_)
    refine jqm (jmst 3 ?_)
    refine jq jrm ?_;refine jN ?_;refine jcs ?_;refine jcd (.rd 0 (.rd 1 (.rd 2 (.rd 3 (.rd 4 (.rd 5 (.rd 6 (.rd 7 (.rd 8 (.rd 9 (.rd 10 (.rd 11 (.rd 12 (.rd 13 (.rd 14 (.rd 15 (.rd 16 (.rd 17 (.rd 18 (.rd 19 (.rd 20 (.rd 21 (.rd 22 (.rd 23 (.rd 24 (.rd 25 (.rd 26 (.rd 27 (.rd 28 (.rd 29 (.rd 30 (.rd 31 (.rd 32 (.rd 33 (.rd 34 (.rd 35 (.rd 36 (.rd 37 (.rd 38 (.rd 39 (.one 40 (.one 41 (.rd 42 (.rd 43 (.rd 44 (.rd 45 (.one 46 (.rd 47 (.rd 48 (.rd 49 (.rd 50 (.rd 51 (.rd 52 (.one 53 (.rd 54 (.rd 55 (.rd 56 (.rd 57 .done)))))))))))))))))))))))))))))))))))))))))))))))))))))))))) ?_;refine jyq jrm ?_;refine jyq jre ?_;refine jyq jrm ?_;refine jysp 86 (fun g53 => ?_) fun g53 => ?_
    rotate_left
    · refine jys ?_;refine jys ?_;refine jyq jrpF ?_;refine jyq jrm ?_;refine jys ?_;refine jys ?_;refine jyq jrpF ?_;refine jyq jrm ?_;refine jys ?_;refine jys ?_;refine jyq jrpF ?_;refine jyq jrm ?_;refine jys ?_;refine jys ?_;refine jyq jrpF ?_;refine jyq jrm ?_;refine jys ?_;refine jys ?_;refine jyq jrpF ?_;refine jyq jrm ?_;refine jys ?_;refine jys ?_;refine jys ?_;refine jyq jrpF ?_;refine jyq jrm ?_;refine jys ?_;refine jys ?_;refine jys ?_;refine jyq jrpF ?_;refine jyq jrm ?_;refine jys ?_;refine jys ?_;refine jys ?_;refine jyq jrpF ?_;refine jyq jrm ?_;refine jys ?_;refine jys ?_;refine jys1 ?_;refine jys1 ?_;refine jyq jrpF ?_;refine jyq jrm ?_;refine jys ?_;refine jys ?_;refine jys1 ?_;refine jys ?_;refine jyq jrpF ?_;refine jyq jrm ?_;refine jys ?_;refine jys ?_;refine jys ?_;refine jys1 ?_;refine jys ?_;refine jys ?_;refine jyq jrpF ?_;refine jyq jrm ?_;refine jyd ?_;refine jtn ?_
      refine jR (jrt (hv := ?_))
      refine CEnt.bool ?_
      (simp_all; done)
    refine jyq jrm ?_;refine jyq jre ?_;refine jyq jrpT ?_;refine jyq jrm ?_;refine jysp 90 (fun g53_2 => ?_) fun g53_2 => ?_
    rotate_left
    · refine jys ?_;refine jys ?_;refine jyq jrpF ?_;refine jyq jrm ?_;refine jys ?_;refine jys ?_;refine jyq jrpF ?_;refine jyq jrm ?_;refine jys ?_;refine jys ?_;refine jyq jrpF ?_;refine jyq jrm ?_;refine jys ?_;refine jys ?_;refine jyq jrpF ?_;refine jyq jrm ?_;refine jys ?_;refine jys ?_;refine jys ?_;refine jyq jrpF ?_;refine jyq jrm ?_;refine jys ?_;refine jys ?_;refine jys ?_;refine jyq jrpF ?_;refine jyq jrm ?_;refine jys ?_;refine jys ?_;refine jys ?_;refine jyq jrpF ?_;refine jyq jrm ?_;refine jys ?_;refine jys ?_;refine jys1 ?_;refine jys1 ?_;refine jyq jrpF ?_;refine jyq jrm ?_;refine jys ?_;refine jys ?_;refine jys1 ?_;refine jys ?_;refine jyq jrpF ?_;refine jyq jrm ?_;refine jys ?_;refine jys ?_;refine jys ?_;refine jys1 ?_;refine jys ?_;refine jys ?_;refine jyq jrpF ?_;refine jyq jrm ?_;refine jyd ?_;refine jtn ?_
      refine jR (jrt (hv := ?_))
      refine CEnt.bool ?_
      (simp_all; done)
    refine jyq jrm ?_;refine jyq jre ?_;refine jyq jrpT ?_;refine jyq jrm ?_;refine jysp 94 (fun g53_3 => ?_) fun g53_3 => ?_
    rotate_left
    · refine jys ?_;refine jys ?_;refine jyq jrpF ?_;refine jyq jrm ?_;refine jys ?_;refine jys ?_;refine jyq jrpF ?_;refine jyq jrm ?_;refine jys ?_;refine jys ?_;refine jyq jrpF ?_;refine jyq jrm ?_;refine jys ?_;refine jys ?_;refine jys ?_;refine jyq jrpF ?_;refine jyq jrm ?_;refine jys ?_;refine jys ?_;refine jys ?_;refine jyq jrpF ?_;refine jyq jrm ?_;refine jys ?_;refine jys ?_;refine jys ?_;refine jyq jrpF ?_;refine jyq jrm ?_;refine jys ?_;refine jys ?_;refine jys1 ?_;refine jys1 ?_;refine jyq jrpF ?_;refine jyq jrm ?_;refine jys ?_;refine jys ?_;refine jys1 ?_;refine jys ?_;refine jyq jrpF ?_;refine jyq jrm ?_;refine jys ?_;refine jys ?_;refine jys ?_;refine jys1 ?_;refine jys ?_;refine jys ?_;refine jyq jrpF ?_;refine jyq jrm ?_;refine jyd ?_;refine jtn ?_
      refine jR (jrt (hv := ?_))
      refine CEnt.bool ?_
      (simp_all; done)
    refine jyq jrm ?_;refine jyq jre ?_;refine jyq jrpT ?_;refine jyq jrm ?_;refine jysp 98 (fun g53_4 => ?_) fun g53_4 => ?_
    rotate_left
    · refine jys ?_;refine jys ?_;refine jyq jrpF ?_;refine jyq jrm ?_;refine jys ?_;refine jys ?_;refine jyq jrpF ?_;refine jyq jrm ?_;refine jys ?_;refine jys ?_;refine jys ?_;refine jyq jrpF ?_;refine jyq jrm ?_;refine jys ?_;refine jys ?_;refine jys ?_;refine jyq jrpF ?_;refine jyq jrm ?_;refine jys ?_;refine jys ?_;refine jys ?_;refine jyq jrpF ?_;refine jyq jrm ?_;refine jys ?_;refine jys ?_;refine jys1 ?_;refine jys1 ?_;refine jyq jrpF ?_;refine jyq jrm ?_;refine jys ?_;refine jys ?_;refine jys1 ?_;refine jys ?_;refine jyq jrpF ?_;refine jyq jrm ?_;refine jys ?_;refine jys ?_;refine jys ?_;refine jys1 ?_;refine jys ?_;refine jys ?_;refine jyq jrpF ?_;refine jyq jrm ?_;refine jyd ?_;refine jtn ?_
      refine jR (jrt (hv := ?_))
      refine CEnt.bool ?_
      (simp_all; done)
    refine jyq jrm ?_;refine jyq jre ?_;refine jyq jrpT ?_;refine jyq jrm ?_;refine jysp 102 (fun g53_5 => ?_) fun g53_5 => ?_
    rotate_left
    · refine jys ?_;refine jys ?_;refine jyq jrpF ?_;refine jyq jrm ?_;refine jys ?_;refine jys ?_;refine jys ?_;refine jyq jrpF ?_;refine jyq jrm ?_;refine jys ?_;refine jys ?_;refine jys ?_;refine jyq jrpF ?_;refine jyq jrm ?_;refine jys ?_;refine jys ?_;refine jys ?_;refine jyq jrpF ?_;refine jyq jrm ?_;refine jys ?_;refine jys ?_;refine jys1 ?_;refine jys1 ?_;refine jyq jrpF ?_;refine jyq jrm ?_;refine jys ?_;refine jys ?_;refine jys1 ?_;refine jys ?_;refine jyq jrpF ?_;refine jyq jrm ?_;refine jys ?_;refine jys ?_;refine jys ?_;refine jys1 ?_;refine jys ?_;refine jys ?_;refine jyq jrpF ?_;refine jyq jrm ?_;refine jyd ?_;refine jtn ?_
      refine jR (jrt (hv := ?_))
      refine CEnt.bool ?_
      (simp_all; done)
    refine jyq jrm ?_;refine jyq jre ?_;refine jyq jrpT ?_;refine jyq jrm ?_;refine jysp 106 (fun g53_6 => ?_) fun g53_6 => ?_
    rotate_left
    · refine jys ?_;refine jys ?_;refine jys ?_;refine jyq jrpF ?_;refine jyq jrm ?_;refine jys ?_;refine jys ?_;refine jys ?_;refine jyq jrpF ?_;refine jyq jrm ?_;refine jys ?_;refine jys ?_;refine jys ?_;refine jyq jrpF ?_;refine jyq jrm ?_;refine jys ?_;refine jys ?_;refine jys1 ?_;refine jys1 ?_;refine jyq jrpF ?_;refine jyq jrm ?_;refine jys ?_;refine jys ?_;refine jys1 ?_;refine jys ?_;refine jyq jrpF ?_;refine jyq jrm ?_;refine jys ?_;refine jys ?_;refine jys ?_;refine jys1 ?_;refine jys ?_;refine jys ?_;refine jyq jrpF ?_;refine jyq jrm ?_;refine jyd ?_;refine jtn ?_
      refine jR (jrt (hv := ?_))
      refine CEnt.bool ?_
      (simp_all; done)
    refine jyo (jrdoA 3) ?_;refine jyo (jrdoA 3) ?_;refine jyq (rd_eqAgg rfl rfl rfl Tryz.underlying26 (by kernel_rfl) (by kernel_rfl) (.int Tryz.underlying3 (by decide) rfl rfl (.str Tryz.underlying9 (by decide) rfl rfl (.str Tryz.underlying9 (by decide) rfl rfl .nil))) rfl) ?_;refine jyq jrpT ?_;refine jyq jrm ?_;refine jysp 111 (fun g53_7 => ?_) fun g53_7 => ?_
    rotate_left
    · refine jys ?_;refine jys ?_;refine jys ?_;refine jyq jrpF ?_;refine jyq jrm ?_;refine jys ?_;refine jys ?_;refine jys ?_;refine jyq jrpF ?_;refine jyq jrm ?_;refine jys ?_;refine jys ?_;refine jys1 ?_;refine jys1 ?_;refine jyq jrpF ?_;refine jyq jrm ?_;refine jys ?_;refine jys ?_;refine jys1 ?_;refine jys ?_;refine jyq jrpF ?_;refine jyq jrm ?_;refine jys ?_;refine jys ?_;refine jys ?_;refine jys1 ?_;refine jys ?_;refine jys ?_;refine jyq jrpF ?_;refine jyq jrm ?_;refine jyd ?_;refine jtn ?_
      refine jR (jrt (hv := ?_))
      refine CEnt.bool ?_
      (simp_all; done)
    refine jyo (jrdoA 3) ?_;refine jyo (jrdoA 3) ?_;refine jyq (rd_eqAgg rfl rfl rfl Tryz.underlying26 (by kernel_rfl) (by kernel_rfl) (.int Tryz.underlying3 (by decide) rfl rfl (.str Tryz.underlying9 (by decide) rfl rfl (.str Tryz.underlying9 (by decide) rfl rfl .nil))) rfl) ?_;refine jyq jrpT ?_;refine jyq jrm ?_;refine jysp 116 (fun g53_8 => ?_) fun g53_8 => ?_
    rotate_left
    · refine jys ?_;refine jys ?_;refine jys ?_;refine jyq jrpF ?_;refine jyq jrm ?_;refine jys ?_;refine jys ?_;refine jys1 ?_;refine jys1 ?_;refine jyq jrpF ?_;refine jyq jrm ?_;refine jys ?_;refine jys ?_;refine jys1 ?_;refine jys ?_;refine jyq jrpF ?_;refine jyq jrm ?_;refine jys ?_;refine jys ?_;refine jys ?_;refine jys1 ?_;refine jys ?_;refine jys ?_;refine jyq jrpF ?_;refine jyq jrm ?_;refine jyd ?_;refine jtn ?_
      refine jR (jrt (hv := ?_))
      refine CEnt.bool ?_
      (simp_all; done)
    refine jyo (jrdoA 3) ?_;refine jyo (jrdoA 3) ?_;refine jyq (rd_eqAgg rfl rfl rfl Tryz.underlying26 (by kernel_rfl) (by kernel_rfl) (.int Tryz.underlying3 (by decide) rfl rfl (.str Tryz.underlying9 (by decide) rfl rfl (.str Tryz.underlying9 (by decide) rfl rfl .nil))) rfl) ?_;refine jyq jrpT ?_;refine jyq jrm ?_;refine jysp 121 (fun g53_9 => ?_) fun g53_9 => ?_
    rotate_left
    · refine jys ?_;refine jys ?_;refine jys1 ?_;refine jys1 ?_;refine jyq jrpF ?_;refine jyq jrm ?_;refine jys ?_;refine jys ?_;refine jys1 ?_;refine jys ?_;refine jyq jrpF ?_;refine jyq jrm ?_;refine jys ?_;refine jys ?_;refine jys ?_;refine jys1 ?_;refine jys ?_;refine jys ?_;refine jyq jrpF ?_;refine jyq jrm ?_;refine jyd ?_;refine jtn ?_
      refine jR (jrt (hv := ?_))
      refine CEnt.bool ?_
      (simp_all; done)
    refine jyq jrm ?_;refine jyo (jrdoA 3) ?_
    refine jye (jecP hrp ?_)
    refine jye (jecP (sameParts_ac (partsS s) (by have := (good_parts hr).2; omega)) ?_)
    refine jyq jrpT ?_;refine jyq jrm ?_;refine jysp 127 (fun g53_10 => ?_) fun g53_10 => ?_
    rotate_left
    · refine jys ?_;refine jys ?_;refine jys1 ?_;refine jys ?_;refine jyq jrpF ?_;refine jyq jrm ?_;refine jys ?_;refine jys ?_;refine jys ?_;refine jys1 ?_;refine jys ?_;refine jys ?_;refine jyq jrpF ?_;refine jyq jrm ?_;refine jyd ?_;refine jtn ?_
      refine jR (jrt (hv := ?_))
      refine CEnt.bool ?_
      (simp_all; done)
    refine jyq jrm ?_;refine jyo (jrdoA 3) ?_
    refine jye (jecP hrt ?_)
    refine jyq jrcs ?_;refine jyq jrpT ?_;refine jyq jrm ?_;refine jysp 133 (fun g53_11 => ?_) fun g53_11 => ?_
    · refine jyq jrm ?_;refine jyq jrbs ?_;refine jyo (jrdoA 3) ?_
      refine jye (jecP hrb ?_)
      refine jyq jrbs ?_;refine jyq jrcs ?_;refine jyq jrpT ?_;refine jyq jrm ?_;refine jyd ?_;refine jtn ?_
      refine jR (jrt (hv := ?_))
      refine CEnt.bool ?_
      (simp; done)
    refine jys ?_;refine jys ?_;refine jys ?_;refine jys1 ?_;refine jys ?_;refine jys ?_;refine jyq jrpF ?_;refine jyq jrm ?_;refine jyd ?_;refine jtn ?_
    refine jR (jrt (hv := ?_))
    refine CEnt.bool ?_
    (simp_all; done)
  · have hf : rightS s = false := by simpa using hr
    rw [if_neg hr, if_neg hr] at hp ht
    rw [(putS_not hf).1, (putS_not hf).2] at hb
    have h1 := nright_ac (gs := gs) s
    have h2 := rright_ac (gs := gs) s
    rw [hf] at h1 h2
    refine ac_of 141 Tryz.func4 rfl rfl rfl (fun al w0 F0 St0 => ?_)
    refine jcr ?_
    refine jqe (jebx 3 fun p1 => ?_)
    refine jq jrm ?_;refine jN ?_;refine jcs ?_;refine jcr ?_
    refine jqe (jecP alive09_ac ?_)
    refine jq jrn ?_;refine jN ?_;refine jcc (fun h35 => ?_) fun h35 => ?_
    · exfalso; exact absurd h35 (by decide)
    refine jS (jtn ?_)
    refine jcs ?_;refine jcr ?_;refine jqo (jrdoA 3) ?_
    refine jqe (jecP hlong ?_)
    refine jN ?_;refine jcc (fun h38 => ?_) fun h38 => ?_
    · refine jcr ?_;refine jq jrm ?_;refine jN ?_
      refine jR (jtr (jrt (hv := cZ)))
    refine jS (jtn ?_)
    refine jcr ?_;refine jqo (jrdoA 3) ?_
    refine jqe (jecP hp ?_)
    refine jq jrm ?_;refine jq jrx ?_;refine jq jrx ?_;refine jq jrm ?_;refine jq jrm ?_;refine jN ?_;refine jcr ?_;refine jqo (jrdoA 3) ?_
    refine jqe (jecP ht ?_)
    refine jq jrm ?_;refine jq jrx ?_;refine jq jrx ?_;refine jq jrm ?_;refine jq jrm ?_;refine jN ?_;refine jcr ?_;refine jqo (jrdoA 3) ?_
    refine jqe (jecP hb ?_)
    refine jq jrm ?_;refine jq jrx ?_;refine jq jrx ?_;refine jq jrm ?_;refine jq jrm ?_;refine jN ?_;refine jcs ?_;refine jcs ?_;refine jcd (.rd 0 (.rd 2 (.one 1 (.one 3 (.rd 4 .done))))) ?_;refine jyo (jrdoA 3) ?_;refine jyo (jrdoA 3) ?_
    refine jye (jecP h1 ?_)
    refine jye (jecP h2 ?_)
    refine jyq jrcb ?_;refine jyd ?_;refine jtn ?_;refine jcc (fun h44 => ?_) fun h44 => ?_
    · exfalso; simp at h44
    refine jS (jtn ?_)
    refine jcs ?_;refine jcr ?_;refine jqo (jrdoA 3) ?_
    refine jqe (jecP h2 ?_)
    refine jq jrn ?_;refine jN ?_;refine jcc (fun h47 => ?_) fun h47 => ?_
    rotate_left
    · exfalso; simp at h47
    refine jcr ?_;refine jq jrm ?_;refine jq jrl ?_;refine jq jrc ?_;refine jq jrm ?_;refine jqsp 45 (fun g48 => ?_) fun g48 => ?_
    rotate_left
    · refine jqs ?_;refine jqs ?_;refine jq jrpF ?_;refine jq jrm ?_;refine jqs ?_;refine jqs ?_;refine jqs ?_;refine jq jrpF ?_;refine jq jrm ?_;refine jqs ?_;refine jqs ?_;refine jqs ?_;refine jq jrpF ?_;refine jq jrm ?_;refine jqs ?_;refine jqs ?_;refine jqs ?_;refine jq jrpF ?_;refine jq jrm ?_;refine jqs ?_;refine jqs ?_;refine jqs ?_;refine jq jrpF ?_;refine jq jrm ?_;refine jN ?_
      refine jR (jtr (jrt (hv := ?_)))
      refine CEnt.bool ?_
      (simp_all; done)
    refine jq jrm ?_;refine jq jrcs ?_;refine jq jrpT ?_;refine jq jrm ?_;refine jqsp 49 (fun g48_2 => ?_) fun g48_2 => ?_
    rotate_left
    · refine jqs ?_;refine jqs ?_;refine jqs ?_;refine jq jrpF ?_;refine jq jrm ?_;refine jqs ?_;refine jqs ?_;refine jqs ?_;refine jq jrpF ?_;refine jq jrm ?_;refine jqs ?_;refine jqs ?_;refine jqs ?_;refine jq jrpF ?_;refine jq jrm ?_;refine jqs ?_;refine jqs ?_;refine jqs ?_;refine jq jrpF ?_;refine jq jrm ?_;refine jN ?_
      refine jR (jtr (jrt (hv := ?_)))
      refine CEnt.bool ?_
      (simp_all; done)
    refine jq jrm ?_;refine jq jrl ?_;refine jq jrc ?_;refine jq jrpT ?_;refine jq jrm ?_;refine jqsp 54 (fun g48_3 => ?_) fun g48_3 => ?_
    rotate_left
    · refine jqs ?_;refine jqs ?_;refine jqs ?_;refine jq jrpF ?_;refine jq jrm ?_;refine jqs ?_;refine jqs ?_;refine jqs ?_;refine jq jrpF ?_;refine jq jrm ?_;refine jqs ?_;refine jqs ?_;refine jqs ?_;refine jq jrpF ?_;refine jq jrm ?_;refine jN ?_
      refine jR (jtr (jrt (hv := ?_)))
      refine CEnt.bool ?_
      (simp_all; done)
    refine jq jrm ?_
    refine jqe (jecP (num_ac 9 (by decide)) ?_)
    refine jq jrc ?_;refine jq jrpT ?_;refine jq jrm ?_;refine jqsp 59 (fun g48_4 => ?_) fun g48_4 => ?_
    rotate_left
    · refine jqs ?_;refine jqs ?_;refine jqs ?_;refine jq jrpF ?_;refine jq jrm ?_;refine jqs ?_;refine jqs ?_;refine jqs ?_;refine jq jrpF ?_;refine jq jrm ?_;refine jN ?_
      refine jR (jtr (jrt (hv := ?_)))
      refine CEnt.bool ?_
      (simp_all; done)
    refine jq jrm ?_
    refine jqe (jecP (num_ac 9 (by decide)) ?_)
    refine jq jrc ?_;refine jq jrpT ?_;refine jq jrm ?_;refine jqsp 64 (fun g48_5 => ?_) fun g48_5 => ?_
    · refine jq jrm ?_
      refine jqe (jecP (num_ac 9 (by decide)) ?_)
      refine jq jrc ?_;refine jq jrpT ?_;refine jq jrm ?_;refine jN ?_
      refine jR (jtr (jrt (hv := ?_)))
      refine CEnt.bool ?_
      rfl
    refine jqs ?_;refine jqs ?_;refine jqs ?_;refine jq jrpF ?_;refine jq jrm ?_;refine jN ?_
    refine jR (jtr (jrt (hv := ?_)))
    refine CEnt.bool ?_
    (simp_all; done)
end
section
open Go.RowKit Go.ChangeShapes
def Opens (P : Program) (t : TypeId) (k : Nat) (D : Type) (φ : D → Prop) (E : D → Nat → CV) : Prop :=
  ∀ (H : Type) (enc : TypeId × Value → H) (W : World) (fuel : Nat) (cs : List Value) (y : DataW H × List MemPlace), DataW.trod enc P W 0 (fun _ => true) true fuel t cs = some y →
    cs.length = k ∧ ∃ x : D, φ x ∧ ∀ al j, j < k → RepC al (fun b => b < W.heap.size) W (E x j) (cs.getD j undef)
section
variable {P : Program} {t : TypeId}
theorem one_cell {al : List Addr} {W : World} {St : Nat → Prop} {c : Nat → CV} {v : Value} (h : RepC al St W (c 0) v) : ∀ j, j < 1 → RepC al St W (c j) ([v].getD j undef) := fun j hj => by
  obtain rfl : j = 0 := by omega
  exact h
theorem opens_i64 (hu : P.underlying t = some (.int .i64)) : Opens P t 1 Int (fun z => -9223372036854775808 ≤ z ∧ z ≤ 9223372036854775807) (fun z _ => .c (.int .i64 z)) := fun H enc W fuel cs y h => by
  obtain ⟨n, rfl, _, hw⟩ := DataW.trod_int hu h
  exact ⟨rfl, n, bounds_i64 hw, fun al => one_cell rfl⟩
def OpensF (P : Program) (fs : List Field) (D : Type) (φ : D → Prop) (E : D → Nat → CV) (C : Nat → Bool) : Prop :=
  ∀ (H : Type) (enc : TypeId × Value → H) (W : World) (cs : List Value), (∀ f ∈ fs, ∃ n y, DataW.trod enc P W 0 (fun _ => true) true n f.type ((cs.drop f.offset).take (P.cellsOf f.type)) = some y) →
    ∃ x : D, φ x ∧ ∀ al j, C j = true → RepC al (fun b => b < W.heap.size) W (E x j) (cs.getD j undef)
theorem opensF_nil : OpensF P [] Unit (fun _ => True) (fun _ _ => .top) (fun _ => false) := fun H enc W cs _ => ⟨(), trivial, fun al j h => by cases h⟩
theorem opensF_cons {f : Field} {fs : List Field} {k : Nat} {D1 D2 : Type} {φ1 : D1 → Prop} {φ2 : D2 → Prop} {E1 : D1 → Nat → CV} {E2 : D2 → Nat → CV} {C2 : Nat → Bool} (h1 : Opens P f.type k D1 φ1 E1) (h2 : OpensF P fs D2 φ2 E2 C2) :
    OpensF P (f :: fs) (D1 × D2) (fun x => φ1 x.1 ∧ φ2 x.2) (fun x j => match Nat.ble f.offset j && Nat.blt j (f.offset + k) with | true => E1 x.1 (j - f.offset) | false => E2 x.2 j) (fun j => (Nat.ble f.offset j && Nat.blt j (f.offset + k)) || C2 j) := fun H enc W cs h => by
  obtain ⟨n, y, hy⟩ := h f (List.mem_cons_self ..)
  obtain ⟨hl, x1, p1, r1⟩ := h1 H enc W n _ y hy
  obtain ⟨x2, p2, r2⟩ := h2 H enc W cs fun g hg => h g (List.mem_cons_of_mem _ hg)
  refine ⟨(x1, x2), ⟨p1, p2⟩, fun al j hj => ?_⟩
  cases hb : Nat.ble f.offset j && Nat.blt j (f.offset + k) with
  | true =>
    have hb0 := hb
    simp only [Bool.and_eq_true] at hb
    have b1 : f.offset ≤ j := Nat.le_of_ble_eq_true hb.1
    have b2 : j < f.offset + k := Nat.le_of_ble_eq_true hb.2
    have := r1 al (j - f.offset) (by omega)
    simp only [List.length_take, List.length_drop] at hl
    rw [List.getD_eq_getElem?_getD, List.getElem?_take, if_pos (by omega), List.getElem?_drop, show f.offset + (j - f.offset) = j by omega, ← List.getD_eq_getElem?_getD] at this
    simp only [hb0]
    exact this
  | false =>
    simp only [hb, Bool.false_or] at hj
    simp only [hb]
    exact r2 al j hj
theorem opens_struct {fs : Array Field} {n : Nat} {D : Type} {φ : D → Prop} {E : D → Nat → CV} {C : Nat → Bool} (hu : P.underlying t = some (.struct fs)) (hn : P.cellsOf t = n) (ho : OpensF P fs.toList D φ E C) (hC : (List.range n).all C = true) : Opens P t n D φ E := fun H enc W fuel cs y h => by
  obtain ⟨xs, m, _, _, hl, hlen, hf⟩ := DataW.trod_struct hu h
  obtain ⟨x, hx, hr⟩ := ho H enc W cs fun f hf' => by
    obtain ⟨i, hi⟩ := List.mem_iff_getElem?.1 hf'
    rw [Array.getElem?_toList] at hi
    have := hf i f hi
    have hlt : i < xs.length := by rw [hlen]; exact (Array.getElem?_eq_some_iff.1 hi).1
    rw [List.getElem?_eq_getElem hlt] at this
    exact ⟨m, _, this⟩
  exact ⟨hl.trans hn, x, hx, fun al j hj => hr al j (List.all_eq_true.1 hC j (List.mem_range.2 hj))⟩
theorem arg_agg {n : Nat} {D : Type} {φ : D → Prop} {E : D → Nat → CV} (ho : Opens P t n D φ E) {H : Type} {enc : TypeId × Value → H} {W : World} {cs : Array Value} {d : DataW H} {p : List MemPlace} (h : DataW.Trod enc P W 0 (fun _ => true) true t (.agg cs) d p) :
    ∃ x : D, φ x ∧ ∀ al, RepC al (fun b => b < W.heap.size) W (.agg n (E x)) (.agg cs) := by
  obtain ⟨fuel, hf⟩ := h
  obtain ⟨hl, x, hx, hr⟩ := ho H enc W fuel _ _ hf
  refine ⟨x, hx, fun al => ⟨cs, rfl, by simpa [Value.cells] using hl, fun i hi => ?_⟩⟩
  have := hr al i hi
  simpa [Value.cells] using this
end
end
section
open Go.RowKit Go.ChangeShapes
theorem opens_strL {P : Program} {t : TypeId} (hu : P.underlying t = some .string) : Opens P t 1 (List UInt8) (fun s => s.length ≤ maxLen) (fun z _ => strC z) := fun H enc W fuel cs y h => by
  obtain ⟨n, rfl, _, hs⟩ := DataW.trod_string hu h
  obtain ⟨l, rfl⟩ := ba_list n
  exact ⟨rfl, l, hs, fun al => one_cell rfl⟩
end
end Am
end Go.Proofs.YteolfpolmioalaaGreatDoor
