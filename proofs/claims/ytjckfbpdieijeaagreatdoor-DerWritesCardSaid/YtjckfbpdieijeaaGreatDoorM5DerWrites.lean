/- What the law leans on, part 5: W05b, W05c, W05d, W05e, Laid, Tab, V8, P07e, W07p, P07c, W07, L07, P09n, W07l, W07q, W08m, W08n, W08v, W08w, W08x, P08b, P08d, W08a, W08b, W08c, W08d, W08e, ErrN, W08y, W06c, P06c -/
import Derived.Test.YtjckfbpdieijeaaGreatDoorM4DerWrites
import Derived.Test.YtjckfbpdieijeaaGreatDoorRows
import Derived.LaidLaws
import Derived.MakeChecks
import Derived.Lib.LaidU8T
import Derived.Shelf.Unicode.ValidAny

/- Chapter 5: septets, number; the parts of a text, one by one; Parse. -/
namespace Go.Proofs.YtjckfbpdieijeaaGreatDoor
set_option linter.unusedVariables false
namespace Am
variable {gs : List Nat} [Ok2 gs]
open Go.RowKit
set_option maxRecDepth 100000

/-! ### numbers of seven bits a byte -/
theorem sep_int (n : Nat) : (((UInt8.ofNat (n % 128)).toNat : Nat) : Int) = (n : Int) % 128 := by
  rw [UInt8.toNat_ofNat']; omega
theorem sep_int2 (n : Nat) : (((UInt8.ofNat (n % 128 + 128)).toNat : Nat) : Int) = (n : Int) % 128 + 128 := by
  rw [UInt8.toNat_ofNat']; omega
theorem septets_ac {gs : List Nat} (N : Nat) (hN : N < 34359738368) : AC gs Tryz.prog 142 [] [.c (.int .i64 (N : Nat))] (OwnQ (sepL N).length 1 (sepL N).length (byF (sepL N))) := by
  have hlen := sepL_len hN
  refine ac_of 24 Tryz.func142 rfl rfl rfl (fun al w0 F0 St0 => ?_)
  refine jcr ?_
  refine jq jrm ?_
  refine seq_nil ?_
  refine jcr ?_
  refine jq jrm ?_
  refine jq jrr ?_
  refine jq (jrv .i64 .u8) ?_
  refine jqe (jebl 1 1 zr5 fun p1 => ?_)
  refine jq jrm ?_
  refine seq_nil ?_
  refine jcs ?_
  refine jcr ?_
  refine jq jrm ?_
  refine jq jrq ?_
  refine jq jrm ?_
  refine seq_nil ?_
  refine code_block ?_
  refine l_loop (α := Nat × List UInt8 × Option Nat) [0, 3, 10, 11, 12, 13, 14, 15, 16, 17, 18, 19, 20] (fun (m, o, g) => [(0, .c (.int .i64 (m : Nat))), (3, .os 0 g 0 o.length 1)]) (fun (m, o, g) => [(g, .blk o.length (byF o))]) (fun (m, o, g) => m ≤ N ∧ sepL N = sepHi m ++ o.reverse ∧ 0 < o.length) (fun (m, o, g) => m) ((N / 128, [UInt8.ofNat (N % 128)], p1)) ?_ (fun _ => rfl) ?_ ?_ ?_
  · exact ⟨Nat.div_le_self _ _, rfl, Nat.one_pos⟩
  · exact .cons (CEnt.int (by omega)) (.cons (CEnt.refl _) .nil)
  · exact .blk rfl (fun j hj => fl_by (l2 := [UInt8.ofNat (N % 128)]) (.cons (CEnt.int (sep_int N).symm) .nil) j hj) .nil
  · rintro ⟨m, o, g⟩ ⟨(hm : m ≤ N), hd, ho0⟩
    have ho : o.length ≤ 5 := by have := congrArg List.length hd; simp only [List.length_append, List.length_reverse] at this; omega
    refine jcs ?_
    refine jcr ?_
    refine jq jrm ?_
    refine jq jrc ?_
    refine seq_nil ?_
    refine jcc (fun h60 => ?_) fun h60 => ?_
    rotate_left
    · refine code_exit (jte (jte (jbx (jtn ?_))))
      have hm0 : m = 0 := by omega
      rw [hm0, sepHi_zero, List.nil_append] at hd
      refine jcr ?_
      refine jq jrm ?_
      refine jqm (jmcH 0 (reverse8_ac _ o (by omega)) ?_)
      rintro _ _ ⟨rfl, rfl⟩
      refine ⟨_, _, rfl, CEnt.refl _, ?_⟩
      refine seq_nil ?_
      refine jcr ?_
      refine jq jrm ?_
      refine jq jrm ?_
      refine seq_nil ?_
      refine code_ret ?_
      exact end_O 0 (.inl rfl) (res_1 rfl (arv_tmp rfl)) rfl (by rw [hd, List.length_reverse]) (by rw [hd]; exact Nat.le_refl _) (fun _ => by rw [hd]) (fun j hj => by rw [hd]; exact CEnt.refl _)
    refine code_skip (jtn ?_)
    refine jcs ?_
    refine code_block ?_
    refine jcg ?_
    refine jq jrm ?_
    refine jq jrm ?_
    refine jq jrr ?_
    refine jq jra ?_
    refine jq (jrv .i64 .u8) ?_
    refine jqe (jebl 1 1 zr5 fun p2 => ?_)
    refine jqm (m_appendB (l2 := [UInt8.ofNat (m % 128 + 128)]) rfl rfl rfl (Nat.le_refl _) (fun _ _ => CEnt.refl _) (src_os rfl (.inl rfl) (by decide)) rfl (hh_bytes (.cons (CEnt.int ((sep_int2 m).symm)) .nil)) Tryz.underlying26 nu26 sz5 zr5 by5 rfl (by (simp; omega)) (leaf_fl rfl rfl) rfl rfl (fun p3 => ?_))
    refine jq jrm ?_
    refine seq_nil ?_
    refine jbn (jtn ?_)
    refine jcg ?_
    refine jq jrm ?_
    refine jq jrq ?_
    refine jq jrm ?_
    refine seq_nil ?_
    refine jtn ?_
    refine jlend ((m / 128, o ++ [UInt8.ofNat (m % 128 + 128)], p3)) ?_ ?_ (h5 := ?_)
    · exact ⟨by omega, by rw [hd, sepHi_pos (show m ≠ 0 by omega), List.reverse_append, List.append_assoc]; rfl, by simp⟩
    · show m / 128 < m; omega
    · exact .cons (CEnt.int (by omega)) (.cons (CEnt.refl _) .nil)
/-! ### the parts of a text -/
theorem index1_ac {gs : List Nat} (a : List UInt8) (c : UInt8) : ACp gs Tryz.prog 192 [strC a, strC [c]] (.c (.int .i64 (Lib.indexByte a c))) :=
  ac_old fun al w St vals hs hv hr => by
    rw [vals2 hv, show vals.getD 0 undef = .string ⟨a.toArray⟩ from hr 0, show vals.getD 1 undef = .string ⟨#[c]⟩ from hr 1]
    exact (Tryz.strings_Index_one _ _ w).mono (by rintro e w' ⟨rfl, rfl⟩; exact ⟨by simp, Below.refl _ _⟩)
theorem idx_cut (c : UInt8) : ∀ l : List UInt8, (Lib.indexByte l c < 0 ∧ splitC c l = [l]) ∨ ∃ p r, l = p ++ c :: r ∧ Lib.indexByte l c = (p.length : Nat) ∧ splitC c l = p :: splitC c r
  | [] => .inl ⟨by simp [Lib.indexByte], rfl⟩
  | x :: l => by
    by_cases hx : x = c
    · subst hx
      refine .inr ⟨[], l, rfl, ?_, ?_⟩
      · simp [Lib.indexByte]
      · simp [splitC]
    · rcases idx_cut c l with ⟨h1, h2⟩ | ⟨p, r, h1, h2, h3⟩
      · refine .inl ⟨?_, ?_⟩
        · have := Lib.indexByte_ge l c
          have e : Lib.indexByte l c = -1 := by omega
          simp [Lib.indexByte, hx, e]
        · rw [splitC, if_neg hx, h2]; rfl
      · refine .inr ⟨x :: p, r, by rw [h1]; rfl, ?_, ?_⟩
        · have e : ¬ Lib.indexByte l c = -1 := by omega
          simp [Lib.indexByte, hx, h2]; try omega
        · rw [splitC, if_neg hx, h3]; rfl
/-- what strings.splitSeq hands out: the closure, and the box of what is left -/
def seqF (f : FuncId) (c : UInt8) (g : Option Nat) : CV := .fn f 3 (fl [.rp 1 fun _ => strC [c], .op 0 g 0, .rp 1 fun _ => .c (.int .i64 0)])
theorem split_ac {gs : List Nat} (s : List UInt8) (c : UInt8) : AC gs Tryz.prog 173 [] [strC s, strC [c], .c (.int .i64 0)] (fun r H' => ∃ g, r = seqF 190 c g ∧ H' = [(g, .blk 1 (fun _ => strC s))]) := by
  refine ac_of 8 Tryz.func173 rfl rfl rfl (fun al w0 F0 St0 => ?_)
  refine jcr ?_
  refine jqe (jebx 1 fun p1 => ?_)
  refine jqe (jebx 1 fun p2 => ?_)
  refine jqe (jebx 1 fun p3 => ?_)
  refine jq jrm ?_
  refine seq_nil ?_
  refine code_ent (freeze 1 rfl) ?_
  refine code_ent (freeze 2 rfl) ?_
  refine code_ent (thawP (m := 1) 4 rfl rfl (by decide)) ?_
  refine code_ent (thawP (m := 1) 5 rfl rfl (by decide)) ?_
  refine code_ent (blk_ent 0 (m := 1) (F := fun _ => strC s) rfl (Nat.le_refl _) (fun _ => rfl) (fun j hj => by obtain rfl : j = 0 := (by omega); exact CEnt.refl _)) ?_
  refine jcr ?_
  refine jq jrmf ?_
  refine jq jrm ?_
  refine seq_nil ?_
  refine code_ret ?_
  exact end_own (.inl rfl) (seqF 190 c p1) _ [0] (by decide) rfl ((res_1 rfl (arv_tmp rfl)).ent (by refine CEnt.fn3 (CEnt.rp ?_) CEnt.opI (CEnt.rp ?_) <;> (intro j hj; obtain rfl : j = 0 := (by omega); exact CEnt.refl _))) ⟨_, rfl, rfl⟩
theorem splitSeq_ac {gs : List Nat} (s : List UInt8) (c : UInt8) : AC gs Tryz.prog 158 [] [strC s, strC [c]] (fun r H' => ∃ g, r = seqF 190 c g ∧ H' = [(g, .blk 1 (fun _ => strC s))]) := by
  refine ac_of 8 Tryz.func158 rfl rfl rfl (fun al w0 F0 St0 => ?_)
  refine jcr ?_
  refine jq jrm ?_
  refine seq_nil ?_
  refine jcr ?_
  refine jq jrm ?_
  refine jq jrm ?_
  refine jqe (jecS (split_ac s c) ?_)
  rintro _ _ ⟨p1, rfl, rfl⟩
  refine jq jrm ?_
  refine seq_nil ?_
  refine code_ret ?_
  exact end_own (.inl rfl) _ _ [0] (by decide) rfl (res_1 rfl (arv_tmp rfl)) ⟨_, rfl, rfl⟩
theorem parts_drop {c : UInt8} {s rest : List UInt8} {k : Nat} (h : (splitC c s).drop k = splitC c rest) : k < (splitC c s).length := by
  have := splitC_ne c rest
  rw [← h] at this
  apply Classical.byContradiction
  intro hn
  exact this (List.drop_eq_nil_of_le (by omega))
theorem drop_getD {α : Type} {l : List α} {k : Nat} {d x : α} {r : List α} (h : l.drop k = x :: r) : l.getD k d = x ∧ l.drop (k + 1) = r := by
  have h1 : l[k]? = some x := by
    have := congrArg (fun m => m[0]?) h
    simpa using this
  exact ⟨by simp [List.getD, h1], by rw [← List.drop_drop, h]; rfl⟩
theorem seq_iter {gs : List Nat} (s : List UInt8) (c : UInt8) (g : Option Nat) (hs : s.length ≤ 100000000000) : IterC gs Tryz.prog 190 [(g, .blk 1 (fun _ => strC s))] ((List.range 3).map (fl [.rp 1 fun _ => strC [c], .op 0 g 0, .rp 1 fun _ => .c (.int .i64 0)])) (splitC c s).length (fun k => [strC ((splitC c s).getD k [])]) := fun l J Jx hY => by
  refine ac_ofY true 52 Tryz.func190 rfl rfl rfl (fun al w0 F0 St0 => ?_)
  refine jcs ?_
  refine jcr ?_
  refine jq jrdr ?_
  refine jq jrls ?_
  refine jq jrc ?_
  refine seq_nil ?_
  refine jcc (fun h38 => ?_) fun h38 => ?_
  · exfalso; simp at h38
  refine code_skip (jtn ?_)
  refine jcs ?_
  refine code_block ?_
  refine l_loop (α := Nat × List UInt8) [7, 8, 29, 30, 31, 32, 33, 34, 35, 36, 37, 38, 39, 40, 41, 42, 43, 44, 45, 46, 47, 48] (fun _ => []) (fun (k, rest) => [(g, .blk 1 (fun _ => strC rest)), (some l, .obj (J k))]) (fun (k, rest) => (splitC c s).drop k = splitC c rest ∧ rest.length ≤ s.length) (fun (k, rest) => rest.length) ((0, s)) ?_ (fun _ => rfl) ?_ ?_ ?_
  · exact ⟨rfl, Nat.le_refl _⟩
  · exact .nil
  · exact .same (.same .nil)
  · rintro ⟨k, rest⟩ ⟨hk, hlen⟩
    have hkl := parts_drop hk
    have hcut := idx_cut c rest
    refine code_block ?_
    refine jcr ?_
    refine jqo jrdo ?_
    refine jq jrdr ?_
    refine jqe (jecP (index1_ac rest c) ?_)
    refine jq jrm ?_
    refine seq_nil ?_
    refine jcs ?_
    refine jcr ?_
    refine jq jrm ?_
    refine jq jrc ?_
    refine seq_nil ?_
    refine jcc (fun h50 => ?_) fun h50 => ?_
    · refine code_exit (jte (jbx2 (jte (jbx (jtn ?_)))))
      refine jcg ?_
      refine jq jrm ?_
      have hsp : splitC c rest = [rest] := by
        rcases hcut with h | ⟨q, r, _, h, _⟩
        · exact h.2
        · omega
      have hk2 := drop_getD (d := []) (hk.trans hsp)
      have hm : (splitC c s).length = k + 1 := by
        have := congrArg List.length hk2.2
        simp at this
        omega
      refine jqo jrdo ?_
      refine seq_mdI (wanted_none rfl) rfl (m_callY (i := 1) rfl rfl rfl (hY k hkl) (.cons (se rfl (CEnt.strL hk2.1.symm)) .nil) rfl rfl ?_)
      rintro _ _ (⟨rfl, rfl⟩ | ⟨rfl, rfl⟩)
      · refine ⟨_, _, rfl, CEnt.refl _, ?_⟩
        refine seq_nil ?_
        exact end_own (.inr rfl) _ _ [1] (by decide) rfl (res_0 rfl) (.inl (by rw [hm]; rfl))
      · refine ⟨_, _, rfl, CEnt.refl _, ?_⟩
        refine seq_nil ?_
        exact end_own (.inr rfl) _ _ [1] (by decide) rfl (res_0 rfl) (.inr rfl)
    refine code_skip (jtn ?_)
    obtain ⟨q, r, hr, hi, hsp⟩ : ∃ q r, rest = q ++ c :: r ∧ Lib.indexByte rest c = (q.length : Nat) ∧ splitC c rest = q :: splitC c r := by
      rcases hcut with h | h
      · omega
      · exact h
    have hk2 := drop_getD (d := []) (hk.trans hsp)
    have hql : q.length < rest.length := by rw [hr]; simp
    refine jcr ?_
    refine jqo jrdo ?_
    refine jq jrm ?_
    refine jq jrdr ?_
    refine jq jra ?_
    refine jq (rd_sliceLT rfl rfl Tryz.underlying9 rfl (show _ = ((q.length : Nat) : Int) by omega) (by (omega))) ?_
    refine jq jrm ?_
    refine seq_nil ?_
    refine jcs ?_
    refine jcr ?_
    refine jq jrm ?_
    refine jq jrm ?_
    refine seq_mdI (wanted_none rfl) rfl (m_callY (i := 1) rfl rfl rfl (hY k hkl) (.cons (se rfl (CEnt.strL (by rw [hk2.1, hr]; simp))) .nil) rfl rfl ?_)
    rintro _ _ (⟨rfl, rfl⟩ | ⟨rfl, rfl⟩)
    · refine ⟨_, _, rfl, CEnt.refl _, ?_⟩
      refine jq jrn ?_
      refine seq_nil ?_
      refine jcF ?_
      refine code_skip (jtn ?_)
      refine jcg ?_
      refine jqo (jrdo (hn := by (omega))) ?_
      refine jq jrm ?_
      refine jq (jrdr (hn := by (omega))) ?_
      refine jq jrls ?_
      refine jq (jra (hS := by show _ ∧ _; ((simp only [List.length_cons, List.length_nil]; omega)))) ?_
      refine jq (rd_sliceLF rfl rfl Tryz.underlying9 rfl (show _ = (((q.length + 1) : Nat) : Int) by (simp only [List.length_append, List.length_cons, List.length_nil]; omega)) (by (omega))) ?_
      refine jqm (jmst 1 ?_ (hn := by (omega)))
      refine seq_nil ?_
      refine jbn (jtn ?_)
      refine jlend ((k + 1, rest.drop (q.length + 1))) ?_ ?_ (h5 := ?_) (h7 := ?_)
      · exact ⟨by rw [hk2.2, hr]; simp, by rw [List.length_drop]; omega⟩
      · show (rest.drop (q.length + 1)).length < rest.length; rw [List.length_drop]; omega
      · exact .nil
      · exact .blk rfl (fun j hj => by obtain rfl : j = 0 := (by omega); exact CEnt.refl _) (.same .nil)
    · refine ⟨_, _, rfl, CEnt.refl _, ?_⟩
      refine jq jrn ?_
      refine seq_nil ?_
      refine jcT ?_
      refine code_ret (jtr (jbr (jtr (jbr (jtr ?_)))))
      exact end_own (.inl rfl) _ _ [1] (by decide) rfl (res_0 rfl) (.inr rfl)
end Am
end Go.Proofs.YtjckfbpdieijeaaGreatDoor

/- Chapter 5: Parse. -/
namespace Go.Proofs.YtjckfbpdieijeaaGreatDoor
set_option linter.unusedVariables false
namespace Am
variable {gs : List Nat} [Ok2 gs]
open Go.RowKit
set_option maxRecDepth 100000

theorem CEnt.nilO {i k : Nat} : CEnt (.c (.slice none 0 0)) (.os i none 0 0 k) := fun al St w v h => ⟨rfl, h⟩
theorem split_len (c : UInt8) : ∀ l : List UInt8, (splitC c l).length ≤ l.length + 1
  | [] => by simp [splitC]
  | x :: l => by
    have ih := split_len c l
    rw [splitC]
    split
    · simp; omega
    · have h : ∀ ls : List (List UInt8), ls ≠ [] → (consHead x ls).length = ls.length := fun ls h => by cases ls <;> simp_all [consHead]
      rw [h _ (splitC_ne c l)]
      simp; omega
theorem part_len {c : UInt8} : ∀ {l p : List UInt8}, p ∈ splitC c l → p.length ≤ l.length
  | [], p, h => by simp [splitC] at h; simp [h]
  | x :: l, p, h => by
    rw [splitC] at h
    split at h
    · rcases List.mem_cons.1 h with rfl | h
      · simp
      · have := part_len h; simp; omega
    · cases hs : splitC c l with
      | nil => exact absurd hs (splitC_ne c l)
      | cons q r =>
        rw [hs, consHead] at h
        rcases List.mem_cons.1 h with rfl | h
        · have := part_len (c := c) (l := l) (p := q) (by rw [hs]; exact List.mem_cons_self ..)
          simp; omega
        · have := part_len (c := c) (l := l) (p := p) (by rw [hs]; exact List.mem_cons_of_mem _ h)
          simp; omega
theorem take_get {α : Type} {l : List α} {k : Nat} (d : α) (h : k < l.length) : l.take (k + 1) = l.take k ++ [l.getD k d] := by
  rw [List.take_succ_eq_append_getElem h]
  simp [List.getD, h]
theorem getD_mem' {α : Type} {l : List α} {k : Nat} (d : α) (h : k < l.length) : l.getD k d ∈ l := by
  simp [List.getD, h]
theorem parse_bad {s : List UInt8} (h : (splitC 46 s).all okP = false) : (parseM s).1 = [] ∧ (parseM s).2 = 4 := by
  unfold parseM; rw [if_pos h]; exact ⟨rfl, rfl⟩
theorem parse_wrong {s : List UInt8} (h : (splitC 46 s).all okP = true) (h2 : rightA ((splitC 46 s).map valP) = false) : (parseM s).1 = [] ∧ (parseM s).2 = 1 := by
  unfold parseM; rw [if_neg (by simp [h]), if_pos h2]; exact ⟨rfl, rfl⟩
theorem parse_good {s : List UInt8} (h : (splitC 46 s).all okP = true) (h2 : rightA ((splitC 46 s).map valP) = true) : (parseM s).1 = (splitC 46 s).map valP ∧ (parseM s).2 = 0 := by
  unfold parseM; rw [if_neg (by simp [h]), if_neg (by simp [h2])]; exact ⟨rfl, rfl⟩
theorem all_false {α : Type} {p : α → Bool} {l : List α} {k : Nat} (d : α) (h : k < l.length) (hp : p (l.getD k d) = false) : l.all p = false := by
  cases e : l.all p with
  | false => rfl
  | true =>
    have := List.all_eq_true.1 e _ (getD_mem' d h)
    rw [hp] at this; cases this
set_option maxHeartbeats 1000000 in
theorem oparse_ac (s : List UInt8) (hs : s.length ≤ 1000000000) : ACp gs Tryz.prog 141 [strC s] (.tup 2 (fl [isC (parseM s).1, .err (parseM s).2])) := by
  have hpl := split_len 46 s
  refine ac_of 33 Tryz.func141 rfl rfl rfl (fun al w0 F0 St0 => ?_)
  refine jcr ?_
  refine jqe (jeal (n := 1) zr22 rfl fun p1 => ?_)
  refine jqe (jeal (n := 1) zr28 rfl fun p2 => ?_)
  refine seq_nil ?_
  refine jcr ?_
  refine jqe (jeal (n := 1) zr22 rfl fun p3 => ?_)
  refine seq_nil ?_
  refine jcs ?_
  refine jcr ?_
  refine jq jrm ?_
  refine jqe (jecS (splitSeq_ac s 46) ?_)
  rintro _ _ ⟨gS, rfl, rfl⟩
  refine seq_nil ?_
  refine code_block ?_
  refine code_ent (blk_ent 0 (m := 1) (F := fun _ => .c (.slice none 0 0)) rfl (Nat.le_refl _) (fun _ => rfl) (fun j hj => by obtain rfl : j = 0 := (by omega); exact CEnt.refl _)) ?_
  refine code_ent (blk_ent 1 (m := 1) (F := fun _ => .c .nilIface) rfl (Nat.le_refl _) (fun _ => rfl) (fun j hj => by obtain rfl : j = 0 := (by omega); exact CEnt.refl _)) ?_
  refine code_ent (blk_ent 2 (m := 1) (F := fun _ => .os 3 none 0 0 1) rfl (Nat.le_refl _) (fun _ => rfl) (fun j hj => by obtain rfl : j = 0 := (by omega); exact CEnt.nilO)) ?_
  refine code_ent (ent_none (inF [])) ?_
  refine code_range (π := List Int × Option Nat) (q := List Int × Option Nat) ((splitC 46 s).length) (fun k => [strC ((splitC 46 s).getD k [])]) ([(gS, .blk 1 (fun _ => strC s))]) (fun (X, ga) => [(p1, .blk 1 (fun _ => .c (.slice none 0 0))), (p2, .blk 1 (fun _ => .c .nilIface)), (p3, .blk 1 (fun _ => .os 3 ga 0 X.length 1)), (ga, .blk X.length (inF X))]) (fun k (X, ga) => X = ((splitC 46 s).take k).map valP ∧ ((splitC 46 s).take k).all okP = true) (fun (X, ga) => [(p1, .blk 1 (fun _ => .c (.slice none 0 0))), (p2, .blk 1 (fun _ => .err 4)), (p3, .blk 1 (fun _ => .os 3 ga 0 X.length 1)), (ga, .blk X.length (inF X))]) (fun c _ => c = .ret ∧ (splitC 46 s).all okP = false) (([], none)) [3, 0, 1, 2, 4] rfl rfl (by kernel_rfl) (seq_iter s 46 gS (by omega)) (⟨rfl, rfl⟩) (by decide) rfl (fun _ _ => rfl) rfl ?_ ?_ ?_
  · intro k hk l al2 w2 F2 S2 R0 R1
    rintro ⟨X, ga⟩ ⟨hX, hall⟩
    have hXl : X.length ≤ k := by rw [hX, List.length_map, List.length_take]; omega
    have hpp := part_len (getD_mem' (l := splitC 46 s) [] hk)
    refine jcg ?_
    refine jq jrm ?_
    refine seq_nil ?_
    refine assign_norm ?_
    refine code_block ?_
    refine jcr ?_
    refine jq jrm ?_
    refine jqe (jecP (wfig_ac ((splitC 46 s).getD k [])) ?_)
    refine jq jrm ?_
    refine jq jrx ?_
    refine jq jrx ?_
    refine jq jrm ?_
    refine jq jrm ?_
    refine seq_nil ?_
    refine jcs ?_
    refine jcr ?_
    refine jq jrm ?_
    refine jq jre ?_
    refine jq jrm ?_
    refine jqsp 18 (fun g34 => ?_) fun g34 => ?_
    · refine jqs ?_
      refine jqs ?_
      refine jqs ?_
      refine jq jrpT ?_
      refine seq_nil ?_
      refine jcT ?_
      refine jcs ?_
      refine jcdZ (.rd 0 (.one 1 (.one 2 .done))) ?_
      refine jzq (jrde 3) ?_
      refine jzm (jmst 1 ?_)
      refine jzm (jmst 1 ?_)
      refine jzd ?_
      refine jtn ?_
      refine code_ret (jtr (jbr ?_))
      refine round_ret ((X, ga)) ?_ rfl ?_
      · exact ⟨rfl, all_false [] hk (by unfold okP; (simp_all; done))⟩
      · exact .blk rfl (fun j hj => by obtain rfl : j = 0 := (by omega); exact CEnt.refl _) (.blk rfl (fun j hj => by obtain rfl : j = 0 := (by omega); exact CEnt.refl _) (.same (.same (.same .nil))))
    refine jq jrm ?_
    refine jq jrls ?_
    refine jq jrc ?_
    refine jq jrpF ?_
    refine seq_nil ?_
    refine jcc (fun h34 => ?_) fun h34 => ?_
    · refine jcs ?_
      refine jcdZ (.rd 0 (.one 1 (.one 2 .done))) ?_
      refine jzq (jrde 3) ?_
      refine jzm (jmst 1 ?_)
      refine jzm (jmst 1 ?_)
      refine jzd ?_
      refine jtn ?_
      refine code_ret (jtr (jbr ?_))
      refine round_ret ((X, ga)) ?_ rfl ?_
      · exact ⟨rfl, all_false [] hk (by unfold okP; (simp_all; omega))⟩
      · exact .blk rfl (fun j hj => by obtain rfl : j = 0 := (by omega); exact CEnt.refl _) (.blk rfl (fun j hj => by obtain rfl : j = 0 := (by omega); exact CEnt.refl _) (.same (.same (.same .nil))))
    refine code_skip (jtn ?_)
    refine jcg ?_
    refine jqo jrdo ?_
    refine jq jrm ?_
    refine jqe (jebl 1 1 zr3 fun p4 => ?_)
    refine jqm (m_appendC rowC_in (l2 := [valP ((splitC 46 s).getD k [])]) rfl rfl rfl rfl (by exact Nat.le_of_eq (Nat.mul_one _)) (fun _ _ => CEnt.refl _) (src_os rfl (.inl rfl) (by decide)) rfl (hh_ints (.cons (CEnt.int (rfl)) .nil)) Tryz.underlying22 nu22 sz3 zr3 by3 rfl (by (simp; omega)) (by (simp; omega)) (leaf_flk rfl rfl) rfl rfl (Nat.mul_one _) (fun p5 => ?_))
    refine jqm (jmst 1 ?_)
    refine seq_nil ?_
    refine jbn ?_
    refine round_norm ((X ++ [valP ((splitC 46 s).getD k [])], p5)) ?_ rfl ?_
    · exact ⟨by rw [hX, take_get [] hk, List.map_append]; rfl, by rw [take_get [] hk, List.all_append, hall]; simp only [List.all_cons, List.all_nil, Bool.and_true, Bool.true_and, okP]; (simp_all; omega)⟩
    · exact .same (.same (.blk rfl (fun j hj => by obtain rfl : j = 0 := (by omega); exact CEnt.refl _) (.same (.same .nil))))
  · rintro ⟨X, ga⟩ ⟨hX, hall⟩
    rw [List.take_length] at hX hall
    refine jbn (jtn ?_)
    refine jcs ?_
    refine jcr ?_
    refine jqo jrdo ?_
    refine seq_ent (freeze 3 rfl) ?_
    refine seq_ent (thawIL 28 X rfl rfl rfl (Nat.ble_eq_true_of_le (Nat.le_refl _)) (fun j hj => CEnt.refl _)) ?_
    refine jqe (jecP (oright_ac X) ?_)
    refine jq jrn ?_
    refine seq_nil ?_
    refine jcc (fun h39 => ?_) fun h39 => ?_
    · refine jcs ?_
      refine jcdZ (.rd 0 (.one 1 (.one 2 .done))) ?_
      refine jzq (jrde 0) ?_
      refine jzm (jmst 1 ?_)
      refine jzm (jmst 1 ?_)
      refine jzd ?_
      refine jtn ?_
      refine code_ret (jtr (jrt (hres := res_2 rfl javc javc) (hv := ?_)))
      have hb := parse_wrong hall (by rw [← hX]; simpa using h39)
      exact CEnt.tup2 (CEnt.nilS' (by rw [hb.1]; rfl)) (CEnt.errN hb.2)
    refine code_skip (jtn ?_)
    refine jcr ?_
    refine jqo jrdo ?_
    refine seq_ent (thawIL 32 X rfl rfl rfl (Nat.ble_eq_true_of_le (Nat.le_refl _)) (fun j hj => CEnt.refl _)) ?_
    refine jqm (jmst 1 ?_)
    refine jqm (jmst 1 ?_)
    refine seq_nil ?_
    refine code_ret (jrt (hres := res_2 rfl javc javc) (hv := ?_))
    have hb := parse_good hall (by rw [← hX]; simpa using h39)
    exact CEnt.tup2 (show CEnt (isC X) _ from CEnt.of_eq (by rw [hb.1, hX])) (CEnt.nilE hb.2)
  · rintro _ ⟨X, ga⟩ ⟨rfl, hbad⟩
    refine .inl ⟨rfl, ?_⟩
    refine jbr (jtr (jrt (hres := res_2 rfl javc javc) (hv := ?_)))
    have hb := parse_bad hbad
    exact CEnt.tup2 (CEnt.nilS' (by rw [hb.1]; rfl)) (CEnt.errN hb.2)
end Am
end Go.Proofs.YtjckfbpdieijeaaGreatDoor

/- Chapter 5: order, equality; the reference's Parse; Put; the law's example. -/
namespace Go.Proofs.YtjckfbpdieijeaaGreatDoor
set_option linter.unusedVariables false
namespace Am
variable {gs : List Nat} [Ok2 gs]
open Go.RowKit
set_option maxRecDepth 100000

/-! ### lists of numbers -/
def cmpI (a b : Int) : Int := if a < b then -1 else if b < a then 1 else 0
/-! ### Compare, Under -/
def underM (s t : List UInt8) : Bool := decide ((parseM s).2 = 0) && decide ((parseM t).2 = 0) && underA (parseM s).1 (parseM t).1
end Am
end Go.Proofs.YtjckfbpdieijeaaGreatDoor

/- Chapter 5: Put; the reference's Right, Split, Parse; the law's example; OidsOrder. -/
namespace Go.Proofs.YtjckfbpdieijeaaGreatDoor
set_option linter.unusedVariables false
namespace Am
variable {gs : List Nat} [Ok2 gs]
open Go.RowKit
set_option maxRecDepth 100000

theorem parse_ok {s : List UInt8} (h : (parseM s).2 = 0) : rightA (parseM s).1 = true := (parse_right (s := s) (l := (parseM s).1) (by rw [← h])).1
theorem sep_take {l : List Int} {i : Nat} (h : i < (l.drop 2).length) : (((l.drop 2).take (i + 1)).map fun n => sepL n.toNat).flatten = (((l.drop 2).take i).map fun n => sepL n.toNat).flatten ++ sepL (l.getD (2 + i) 0).toNat := by
  rw [take_get 0 h, List.map_append, List.flatten_append]
  simp [List.getD]
theorem sep_flat_len {l : List Int} (h : ∀ n ∈ l, 0 ≤ n ∧ n ≤ 2147483647) : ((l.map fun n => sepL n.toNat).flatten).length ≤ 5 * l.length := by
  induction l with
  | nil => simp
  | cons a l ih =>
    have h1 := sepL_len (n := a.toNat) (by have := h a (by simp); omega)
    have h2 := ih fun n hn => h n (by simp [hn])
    simp at h2 ⊢
    omega
set_option maxHeartbeats 1000000 in
theorem oput_ac (s : List UInt8) (hs : s.length ≤ 1000000000) : ACp gs Tryz.prog 104 [strC s] (.tup 2 (fl [bsC (putM s), .err (parseM s).2])) := by
  refine ac_of 39 Tryz.func104 rfl rfl rfl (fun al w0 F0 St0 => ?_)
  refine jcr ?_
  refine jq jrm ?_
  refine jq jrm ?_
  refine seq_nil ?_
  refine jcr ?_
  refine jq jrm ?_
  refine jqe (jecP (oparse_ac s hs) ?_)
  refine jq jrm ?_
  refine jq jrx ?_
  refine jq jrx ?_
  refine jq jrm ?_
  refine jq jrm ?_
  refine seq_nil ?_
  refine jcs ?_
  refine jcr ?_
  refine jq jrm ?_
  refine jq jre ?_
  refine seq_nil ?_
  refine jcc (fun h70 => ?_) fun h70 => ?_
  · refine jcr ?_
    refine jq jrm ?_
    refine jq jrm ?_
    refine jq jrm ?_
    refine seq_nil ?_
    refine code_ret (jtr (jrt (hv := CEnt.tup2 (CEnt.nilS' (by unfold putM; rw [if_neg (by omega)]; rfl)) (CEnt.refl _))))
  refine code_skip (jtn ?_)
  refine jcs ?_
  obtain ⟨hl2, hl16, hall, ha, hb⟩ := right_at (parse_ok (s := s) (by omega))
  obtain ⟨l, hl⟩ : ∃ l, (parseM s).1 = l := ⟨_, rfl⟩
  rw [hl] at hl2 hl16 hall ha hb ⊢
  have h0 := hall _ (getD_mem' (l := l) (k := 0) 0 (by omega))
  have h1 := hall _ (getD_mem' (l := l) (k := 1) 0 (by omega))
  refine jcd (.rd 0 (.rd 1 (.rd 2 (.rd 3 (.rd 4 (.rd 5 (.rd 6 (.rd 7 (.one 8 (.rd 9 .done)))))))))) ?_
  refine jyq jrm ?_
  refine jyq (jri (i := 0)) ?_
  refine jyq jrdr ?_
  refine jyq jra ?_
  refine jyq jrm ?_
  refine jyq (jri (i := 1)) ?_
  refine jyq jrdr ?_
  refine jyq jra ?_
  refine jye (jecO (septets_ac (40 * l.getD 0 0 + l.getD 1 0).toNat (by omega)) (fun p1 => ?_) (ho := rfl) (he := (.cons (se rfl (CEnt.int (by omega))) .nil)))
  refine jyq jrm ?_
  refine jyd ?_
  refine jtn ?_
  refine jcs ?_
  refine jcr ?_
  refine jq jrm ?_
  refine jq (jrsr (hl := (bd_some rfl (show (2 : Int) = ((2 : Nat) : Int) from rfl))) (hu := (bd_none _ _))) ?_
  refine jq jrl ?_
  refine jq jrm ?_
  refine seq_nil ?_
  refine code_block ?_
  refine l_loop (α := Nat × List UInt8 × Option Nat) [6, 8, 29, 30, 31, 32, 33, 34, 35, 36, 37] (fun (i, o, g) => [(6, .os 0 g 0 o.length 1), (29, .c (.int .i64 (i : Nat)))]) (fun (i, o, g) => [(g, .blk o.length (byF o))]) (fun (i, o, g) => i ≤ l.length - 2 ∧ o = sepL (40 * l.getD 0 0 + l.getD 1 0).toNat ++ (((l.drop 2).take i).map fun n => sepL n.toNat).flatten) (fun (i, o, g) => l.length - i) ((0, sepL (40 * l.getD 0 0 + l.getD 1 0).toNat, p1)) ?_ (fun _ => rfl) ?_ ?_ ?_
  · exact ⟨Nat.zero_le _, by simp⟩
  · exact .cons (CEnt.refl _) (.cons (CEnt.refl _) .nil)
  · exact .same .nil
  · rintro ⟨i, o, g⟩ ⟨(hi : i ≤ l.length - 2), ho⟩
    have hol : o.length ≤ 5 + 5 * i := by
      rw [ho, List.length_append]
      have e1 := sepL_len (n := (40 * l.getD 0 0 + l.getD 1 0).toNat) (by omega)
      have e2 := sep_flat_len (l := (l.drop 2).take i) (fun n hn => hall n (List.mem_of_mem_drop (List.mem_of_mem_take hn)))
      rw [List.length_take, List.length_drop] at e2
      omega
    refine jcr ?_
    refine jq jrc ?_
    refine seq_nil ?_
    refine jcs ?_
    refine jcc (fun h74 => ?_) fun h74 => ?_
    rotate_left
    · refine code_exit (jte (jte (jbx (jtn ?_))))
      refine jcr ?_
      refine jq jrm ?_
      refine jq jrm ?_
      refine jq jrm ?_
      refine seq_nil ?_
      refine code_ent (freeze 0 rfl) ?_
      refine code_ent (thawB 2 (o) rfl rfl (by rfl) rfl) ?_
      refine code_ret (jrt (hv := ?_))
      refine CEnt.tup2 (CEnt.bs ?_) (CEnt.nilE (by omega))
      unfold putM
      rw [if_pos (by omega), hl, ho, List.take_of_length_le (by rw [List.length_drop]; omega)]
      rfl
    refine code_skip (jtn ?_)
    refine jcs ?_
    refine code_block ?_
    refine jcr ?_
    refine jq jri ?_
    refine jq jrdr ?_
    refine jq jrm ?_
    refine seq_nil ?_
    have h3 := hall _ (getD_mem' (l := l) (k := 2 + i) 0 (by omega))
    have h4 := sepL_len (n := (l.getD (2 + i) 0).toNat) (by omega)
    refine jcg ?_
    refine jq jrm ?_
    refine jq jrm ?_
    refine jqe (jecO (septets_ac (l.getD (2 + i) 0).toNat (by omega)) (fun p2 => ?_) (ho := rfl) (he := (.cons (se rfl (CEnt.int (by omega))) .nil)))
    first | refine jqm (m_appendB rfl rfl rfl (Nat.le_refl _) (fun _ _ => CEnt.refl _) (src_rs rfl) rfl (fun j hj => by simp only [Nat.div_one]; exact CEnt.refl _) Tryz.underlying26 nu26 sz5 zr5 by5 rfl (by first | omega | (simp; done) | (simp; omega) | (simp at *; omega)) (fun j hj => rfl) rfl rfl (fun p3 => ?_)) | refine jqm (m_appendB rfl rfl rfl (Nat.le_refl _) (fun _ _ => CEnt.refl _) (src_str rfl) rfl (fun j hj => CEnt.refl _) Tryz.underlying26 nu26 sz5 zr5 by5 rfl (by first | omega | (simp; done) | (simp; omega) | (simp at *; omega)) (fun j hj => rfl) rfl rfl (fun p3 => ?_)) | refine jqm (m_appendB rfl rfl rfl (Nat.le_refl _) (fun _ _ => CEnt.refl _) (src_os rfl (.inl rfl) (by omega)) rfl (fun j hj => by rw [Nat.zero_add]; exact CEnt.refl _) Tryz.underlying26 nu26 sz5 zr5 by5 rfl (by omega) (fun j hj => rfl) rfl rfl (fun p3 => ?_))
    refine jq jrm ?_
    refine seq_nil ?_
    refine jbn (jtn ?_)
    refine jcg ?_
    refine jq jra ?_
    refine jq jrm ?_
    refine seq_nil ?_
    refine jtn ?_
    refine jlend ((i + 1, o ++ sepL (l.getD (2 + i) 0).toNat, p3)) ?_ ?_ (h5 := ?_) (h7 := ?_)
    · exact ⟨by omega, by rw [ho, sep_take (by rw [List.length_drop]; omega), List.append_assoc]⟩
    · show l.length - (i + 1) < l.length - i; omega
    · exact .cons (CEnt.refl _) (.cons (CEnt.int (by omega)) .nil)
    · exact .same .nil
theorem put_len (s : List UInt8) : (putM s).length ≤ 100 := by
  unfold putM
  split
  · rename_i h
    obtain ⟨hl2, hl16, hall, ha, hb⟩ := right_at (parse_ok h)
    unfold putA
    have h0 := hall _ (getD_mem' (l := (parseM s).1) (k := 0) 0 (by omega))
    have h1 := hall _ (getD_mem' (l := (parseM s).1) (k := 1) 0 (by omega))
    have e1 := sepL_len (n := (40 * (parseM s).1.getD 0 0 + (parseM s).1.getD 1 0).toNat) (by omega)
    have e2 := sep_flat_len (l := (parseM s).1.drop 2) (fun n hn => hall n (List.mem_of_mem_drop hn))
    rw [List.length_drop] at e2
    rw [List.length_append]
    omega
  · simp
end Am
end Go.Proofs.YtjckfbpdieijeaaGreatDoor

/- From a row's list of sentinels ('laid') to what the walks ask: each variable's pointer, no two the same. -/
namespace Go.Proofs.YtjckfbpdieijeaaGreatDoor
set_option linter.unusedVariables false
open Go.RowKit Go.ChangeShapes

def isErr (x : String × DataW Unit) : Bool := match x.2 with
  | .iface nm (.ptr (.agg [.lit (.string _)])) => nm == "*errors.errorString"
  | _ => false
theorem isErr_out {x : String × DataW Unit} (h : isErr x = true) : ∃ text, x.2 = .iface "*errors.errorString" (.ptr (.agg [.lit (.string text)])) := by
  obtain ⟨n, d⟩ := x
  unfold isErr at h
  dsimp only at h ⊢
  split at h
  · exact ⟨_, by rw [eq_of_beq h]⟩
  · cases h

theorem laid_list {P : Program} {W : World} {nm : String} {ti tp te ts : TypeId} {ms : Array (String × TypeId)} {f : Field}
    (hi : P.underlying ti = some (.interface ms)) (hrow : ∀ u, P.typeName? 3 u = some nm → u = tp)
    (hp : P.underlying tp = some (.pointer te)) (he : P.underlying te = some (.struct #[f])) (hft : f.type = ts) (hfo : f.offset = 0) (hs : P.underlying ts = some .string) (hc : P.cellsOf te = 1) (hcs : P.cellsOf ts = 1) :
    ∀ (L : List (String × DataW Unit)) (ps : List MemPlace), DataW.LaidVars P W L ps →
      (∀ b off, MemPlace.cell b off ∈ ps → (∃ c t, W.heap[b]? = some (.cells c t (0, 0))) ∧ ∀ u v, W.cell? ⟨b, off, none⟩ = some (.iface u v) → Value.okWide P W .any 0 u v) → ps.Nodup →
      (∀ x ∈ L, isErr x = true → (∃ text, x.2 = .iface nm (.ptr (.agg [.lit (.string text)]))) ∧ ∀ g, P.globalNamed x.1 = some g → (P.globals[g]?).map (·.type) = some ti) →
      ∃ al : List Addr, al.length = (L.filter isErr).length ∧ al.Nodup ∧ (∀ a ∈ al, a.spot = none ∧ MemPlace.cell a.block a.off ∈ ps) ∧
        ∀ (i : Nat) (x : String × DataW Unit) (a : Addr), (L.filter isErr)[i]? = some x → al[i]? = some a → ∃ g, P.globalNamed x.1 = some g ∧ W.cell? ⟨g, 0, none⟩ = some (.iface tp (.pointer (some a)))
  | [], ps, _, _, _, _ => ⟨[], rfl, List.nodup_nil, by simp, by simp⟩
  | (n, d) :: r, ps, hv, hrows, hnd, hL => by
    obtain ⟨g, t, cs, fuel, p, q, hg, ht, hvar, hd, hrest, rfl⟩ := hv
    have hnq : q.Nodup := List.Nodup.sublist (List.sublist_append_right _ _) hnd
    obtain ⟨al, h1, h2, h3, h4⟩ := laid_list hi hrow hp he hft hfo hs hc hcs r q hrest (fun b off hm => hrows b off (List.mem_append_right _ hm)) hnq (fun x hx => hL x (List.mem_cons_of_mem _ hx))
    by_cases hE : isErr (n, d) = true
    case neg =>
      have hE : isErr (n, d) = false := by simpa using hE
      rw [List.filter_cons_of_neg (by simp [hE])]
      exact ⟨al, h1, h2, fun a ha => ⟨(h3 a ha).1, List.mem_append_right _ (h3 a ha).2⟩, h4⟩
    obtain ⟨⟨text, hx⟩, hty⟩ := hL (n, d) (List.mem_cons_self ..) hE
    rw [List.filter_cons_of_pos hE]
    simp only at hx
    subst hx
    obtain rfl := Option.some.inj ((hty g hg).symm.trans ht)
    obtain ⟨l⟩ := cs
    have hcell0 : ∀ v, l = [v] → W.cell? ⟨g, 0, none⟩ = some v := fun v e => by
      subst e
      simpa using World.var?_cell hg hvar 0
    obtain ⟨a, s, rfl, ha, _, _, rfl⟩ := errorString_of_trod hi hrow hp he hft hfo hs hc hcs hd (fun u v e => by
      simp only at e
      subst e
      exact (hrows g 0 (by simp [MemPlace.row])).2 u v (hcell0 _ rfl))
    have hsp : a.spot = none := World.cell?_spot ha
    have hpl : MemPlace.cell a.block a.off ∈ MemPlace.row a 1 := by simp [MemPlace.row]
    refine ⟨a :: al, by simp [h1], List.nodup_cons.2 ⟨fun hm => ?_, h2⟩, ?_, ?_⟩
    · have hq := (h3 a hm).2
      have := (List.nodup_append.1 hnd).2.2 (MemPlace.cell a.block a.off) (List.mem_append_right _ hpl) _ hq
      exact this rfl
    · intro b hb
      rcases List.mem_cons.1 hb with rfl | hb
      · exact ⟨hsp, List.mem_append_left _ (List.mem_append_right _ hpl)⟩
      · exact ⟨(h3 b hb).1, List.mem_append_right _ (h3 b hb).2⟩
    · intro i x b hi' hb
      match i, hi', hb with
      | 0, hi', hb =>
        simp only [List.getElem?_cons_zero, Option.some.injEq] at hi' hb
        subst hi'
        subst hb
        exact ⟨g, hg, hcell0 _ rfl⟩
      | i + 1, hi', hb => exact h4 i x b (by simpa using hi') (by simpa using hb)

theorem starRow (u : TypeId) (h : Tryz.prog.typeName? 3 u = some "*errors.errorString") : u = 246 := by
  have e : "*errors.errorString" = "*" ++ "errors.errorString" := by decide +kernel
  exact typeName_ptr_named (nm := "errors.errorString") (by rw [← e]; kernel_rfl) (by kernel_rfl) (by decide) u (by rw [← e]; exact h)
theorem cellsErr : Tryz.prog.cellsOf 268 = 1 := by kernel_rfl
theorem cellsStr : Tryz.prog.cellsOf 9 = 1 := by kernel_rfl

/-- what a row's list of sentinels gives -/
theorem sent_of_laid {W : World} {L : List (String × DataW Unit)} {g0 : List Nat} (h : laidMetH Tryz.prog L W) (h1 : (L.all fun x => x.2.handleName?.isNone) = true)
    (h3 : ((L.filter isErr).map fun x => Tryz.prog.globalNamed x.1) = (errG g0).map some) (h4 : ((errG g0).map fun g => (Tryz.prog.globals[g]?).map (·.type)) = List.replicate (errG g0).length (some 28))
    (ht : tabA ∈ lst g0 → tabB ∈ lst g0 → Lib.Utf8Tabs tabA tabB W) (hAB : ((lst g0).contains tabA) = ((lst g0).contains tabB)) : ∃ al, SentL W g0 al := by
  rw [MakeChecks.laidMetH_plain _ _ _ h1] at h
  obtain ⟨ps, hv, hnd, hrows⟩ := h
  have hlen : (L.filter isErr).length = (errG g0).length := by simpa using congrArg List.length h3
  have hgl : ∀ (i : Nat) (x : String × DataW Unit), (L.filter isErr)[i]? = some x → ∃ g, (errG g0)[i]? = some g ∧ Tryz.prog.globalNamed x.1 = some g := by
    intro i x hx
    have := congrArg (fun l => l[i]?) h3
    simp only [List.getElem?_map, hx, Option.map_some] at this
    obtain ⟨g, hg, e⟩ := Option.map_eq_some_iff.1 this.symm
    exact ⟨g, hg, e.symm⟩
  obtain ⟨al, l1, l2, l3, l4⟩ := laid_list Tryz.underlying28 starRow Tryz.underlying246 Tryz.underlying268 rfl rfl Tryz.underlying9 cellsErr cellsStr L ps hv hrows hnd
    (fun x hx hE => ⟨isErr_out hE, fun g hg => by
      obtain ⟨i, hi⟩ := List.mem_iff_getElem?.1 (List.mem_filter.2 ⟨hx, hE⟩)
      obtain ⟨g', hg', e⟩ := hgl i x hi
      obtain rfl := Option.some.inj (e.symm.trans hg)
      have := congrArg (fun l => l[i]?) h4
      simp only [List.getElem?_map, hg', Option.map_some] at this
      have hlt : i < (errG g0).length := (List.getElem?_eq_some_iff.1 hg').1
      rw [List.getElem?_replicate, if_pos hlt] at this
      exact Option.some.inj this⟩)
  have hvar : ∀ i g, (errG g0)[i]? = some g → W.cell? ⟨g, 0, none⟩ = some (ev al (i + 1)) := by
    intro i g hg
    have hlt : i < (errG g0).length := (List.getElem?_eq_some_iff.1 hg).1
    obtain ⟨x, hx⟩ : ∃ x, (L.filter isErr)[i]? = some x := ⟨(L.filter isErr)[i], List.getElem?_eq_getElem (by omega)⟩
    obtain ⟨a, ha⟩ : ∃ a, al[i]? = some a := ⟨al[i], List.getElem?_eq_getElem (by omega)⟩
    obtain ⟨g', hg', e⟩ := hgl i x hx
    obtain rfl := Option.some.inj (hg.symm.trans hg')
    obtain ⟨g2, e2, hc⟩ := l4 i x a hx ha
    obtain rfl := Option.some.inj (e.symm.trans e2)
    rw [hc]
    simp [ev, ha]
  refine ⟨al, by omega, fun i j g g' hi _ hj _ e => (List.getElem?_inj (by have := (List.getElem?_eq_some_iff.1 hi).1; omega) l2).1 e, fun i g hi _ => hvar i g hi, fun a ha => (hrows a.block a.off (l3 a ha).2).1, ht, fun g hg => ?_⟩
  by_cases hT : (Nat.beq g tabA || Nat.beq g tabB) = true
  · have hc : tabA ∈ lst g0 ∧ tabB ∈ lst g0 := by
      rcases Bool.or_eq_true_iff.1 hT with e | e
      · have := Nat.eq_of_beq_eq_true e
        subst this
        have h5 : (lst g0).contains tabA = true := List.contains_iff_mem.2 hg
        exact ⟨hg, List.contains_iff_mem.1 (hAB ▸ h5)⟩
      · have := Nat.eq_of_beq_eq_true e
        subst this
        have h5 : (lst g0).contains tabB = true := List.contains_iff_mem.2 hg
        exact ⟨List.contains_iff_mem.1 (hAB.symm ▸ h5), hg⟩
    have hU := ht hc.1 hc.2
    rcases Bool.or_eq_true_iff.1 hT with e | e
    · have := Nat.eq_of_beq_eq_true e
      subst this
      exact World.block_lt_of_cell? W _ (hU.1 0 (by decide))
    · have := Nat.eq_of_beq_eq_true e
      subst this
      exact World.block_lt_of_cell? W _ (hU.2 0 (by decide)).1
  · have hm : g ∈ errG g0 := List.mem_filter.2 ⟨(lst_mem.1 hg).1, by
      cases hb : (Nat.beq g tabA || Nat.beq g tabB) with
      | true => exact absurd hb hT
      | false => rfl⟩
    obtain ⟨i, hi⟩ := List.mem_iff_getElem?.1 hm
    exact World.block_lt_of_cell? W _ (hvar i g hi)
/-! ### arguments that come in -/
end Go.Proofs.YtjckfbpdieijeaaGreatDoor

/- The tables of unicode/utf8 out of a row's list, at a seat that has the tables' types and variables. -/
namespace Go.Proofs.YtjckfbpdieijeaaGreatDoor
set_option linter.unusedVariables false
open Go.RowKit Go.ChangeShapes
def tabRen : Go.Shelf.Ren := ⟨fun n => n, fun | 5 => 5 | 119 => 224 | 138 => 226 | 139 => 227 | n => n, fun | 3 => 28 | 4 => 29 | n => n⟩
theorem tabTypes : U8Types Tryz.prog tabRen where
  t5 := Tryz.underlying5
  t119 := Tryz.underlying224
  t138 := Tryz.underlying226
  t139 := Tryz.underlying227
theorem tabExtra : U8Extra Tryz.prog tabRen where
  n3 := by kernel_rfl
  n4 := by kernel_rfl
  y3 := by kernel_rfl
  y4 := by kernel_rfl
  c5 := by kernel_rfl
  c119 := by kernel_rfl
  c138 := by kernel_rfl
theorem tabs_of_laid {W : World} {L : List (String × DataW Unit)} (h : laidMetH Tryz.prog L W) (h1 : (L.all fun x => x.2.handleName?.isNone) = true) {i j : Nat} (hi : L[i]? = some ("unicode/utf8.first", Lib.firstData)) (hj : L[j]? = some ("unicode/utf8.acceptRanges", Lib.acceptData)) : Lib.Utf8Tabs tabA tabB W := by
  rw [MakeChecks.laidMetH_plain _ _ _ h1] at h
  obtain ⟨ps, hv, hnd, hrows⟩ := h
  exact utf8Tabs_of_readsT (ρ := tabRen) tabTypes tabExtra (Lib.LaidVars_reads hv _ _ (List.mem_of_getElem? hi)) (Lib.LaidVars_reads hv _ _ (List.mem_of_getElem? hj))
end Go.Proofs.YtjckfbpdieijeaaGreatDoor

/- utf8.ValidString at this seat: the kit's contract, laid here; the tables of unicode/utf8 out of a row's list. -/
namespace Go.Proofs.YtjckfbpdieijeaaGreatDoor
set_option linter.unusedVariables false
open Go.RowKit Go.ChangeShapes
def u8ren : Go.Shelf.Ren := ⟨fun | 196 => 172 | 259 => 189 | n => n, fun | 0 => 0 | 3 => 3 | 4 => 4 | 5 => 5 | 9 => 9 | 12 => 12 | 46 => 77 | 53 => 165 | 119 => 224 | 138 => 226 | 139 => 227 | n => n, fun | 3 => 28 | 4 => 29 | n => n⟩
theorem u8lays : Go.Proofs.Lays.n196 Tryz.prog u8ren := {
  mixed := by kernel_rfl
  f196 := Tryz.func172.trans (congrArg some (by kernel_rfl))
  f259 := Tryz.func189.trans (congrArg some (by kernel_rfl))
  t0 := Tryz.underlying0
  a0 := Tryz.isAgg0
  z0 := Tryz.sizeOf0
  v0 := Tryz.zeroValue0
  t3 := Tryz.underlying3
  a3 := Tryz.isAgg3
  z3 := Tryz.sizeOf3
  v3 := Tryz.zeroValue3
  t4 := Tryz.underlying4
  a4 := Tryz.isAgg4
  z4 := Tryz.sizeOf4
  v4 := Tryz.zeroValue4
  t5 := Tryz.underlying5
  a5 := Tryz.isAgg5
  z5 := Tryz.sizeOf5
  v5 := Tryz.zeroValue5
  t9 := Tryz.underlying9
  a9 := Tryz.isAgg9
  z9 := Tryz.sizeOf9
  v9 := Tryz.zeroValue9
  t12 := Tryz.underlying12
  a12 := Tryz.isAgg12
  z12 := Tryz.sizeOf12
  v12 := Tryz.zeroValue12
  t46 := Tryz.underlying77
  a46 := Tryz.isAgg77
  z46 := Tryz.sizeOf77
  v46 := Tryz.zeroValue77
  t53 := Tryz.underlying165
  a53 := Tryz.isAgg165
  z53 := Tryz.sizeOf165
  v53 := Tryz.zeroValue165
  t119 := Tryz.underlying224
  a119 := Tryz.isAgg224
  z119 := Tryz.sizeOf224
  t138 := Tryz.underlying226
  a138 := Tryz.isAgg226
  z138 := Tryz.sizeOf226
  v138 := Tryz.zeroValue226
  t139 := Tryz.underlying227
  a139 := Tryz.isAgg227
  z139 := Tryz.sizeOf227
  v139 := Tryz.zeroValue227
  g3 := by kernel_rfl
  g4 := by kernel_rfl }
namespace Am
/-- the tables are among the variables -/
class OkT (l : List Nat) : Prop where
  a : tabA ∈ lst l
  b : tabB ∈ lst l
instance okTT : OkT gsT := ⟨by decide, by decide⟩
theorem valid_ac {gs : List Nat} [OkT gs] (l : List UInt8) (hl : l.length ≤ 9223372036854775807) : ACp gs Tryz.prog 172 [strC l] (.c (.bool (Lib.validD l))) :=
  ac_old fun al w St vals hs hv hr => by
    have h0 : vals.getD 0 undef = .string ⟨l.toArray⟩ := hr 0
    rw [vals1 hv, h0]
    exact Any.utf8_ValidString u8lays ⟨l.toArray⟩ w hl (hs.tab OkT.a OkT.b)
end Am
end Go.Proofs.YtjckfbpdieijeaaGreatDoor

/- Chapter 7, plain: what the reference asks of a rune's bytes. -/
namespace Go.Proofs.YtjckfbpdieijeaaGreatDoor
namespace Am
open Go.RowKit Go.Lib
set_option linter.unusedVariables false

/-- what the first byte b says: n more bytes, the bits c, the least -/
def RefSt (b n c least : Nat) : Prop :=
  (n = 0 ∧ c = b ∧ least = 0 ∧ b < 128 ∧ 32 ≤ b ∧ b ≠ 127) ∨ (n = 1 ∧ c + 192 = b ∧ least = 128 ∧ b < 224) ∨ (n = 2 ∧ c + 224 = b ∧ least = 2048 ∧ b < 240) ∨ (n = 3 ∧ c + 240 = b ∧ least = 65536 ∧ b < 248)
def cR (d : List UInt8) (c0 : Nat) : Nat → Nat
  | 0 => c0
  | j + 1 => cR d c0 j * 64 + bt d (j + 1) - 128
theorem cR_bd {d : List UInt8} {c0 j : Nat} (hj : j ≤ 3) (h0 : c0 < 128) (h : ∀ q, 1 ≤ q → q ≤ j → 128 ≤ bt d q ∧ bt d q ≤ 191) : cR d c0 j < 33554432 ∧ (j ≤ 2 → cR d c0 j < 524288) := by
  have h1 := h 1 (by omega)
  have h2 := h 2 (by omega)
  have h3 := h 3 (by omega)
  have e0 : cR d c0 0 = c0 := rfl
  have e1 : cR d c0 1 = c0 * 64 + bt d 1 - 128 := rfl
  have e2 : cR d c0 2 = (c0 * 64 + bt d 1 - 128) * 64 + bt d 2 - 128 := rfl
  have e3 : cR d c0 3 = ((c0 * 64 + bt d 1 - 128) * 64 + bt d 2 - 128) * 64 + bt d 3 - 128 := rfl
  have hj4 : j = 0 ∨ j = 1 ∨ j = 2 ∨ j = 3 := by omega
  rcases hj4 with e | e | e | e <;> rw [e] <;> omega
theorem ref_cont {d : List UInt8} {n c least j : Nat} (hd : d ≠ []) (hR : RefSt (bt d 0) n c least) (hj : j < n) (hl : d.length = 1 + j ∨ bt d (j + 1) < 128 ∨ 191 < bt d (j + 1)) : plainM d = false := by
  refine ref_bad hd ?_
  unfold RefSt at hR
  rcases hR with hR | hR | hR | hR
  · omega
  · rw [dec_two (by omega) (by omega), if_pos ?_]
    obtain rfl : j = 0 := by omega
    simp only [Nat.zero_add] at hl
    omega
  · rw [dec_three (by omega) (by omega), if_pos ?_]
    have : j = 0 ∨ j = 1 := by omega
    rcases this with rfl | rfl <;> simp only [Nat.zero_add, Nat.reduceAdd] at hl <;> omega
  · rw [dec_four (by omega) (by omega), if_pos ?_]
    have : j = 0 ∨ j = 1 ∨ j = 2 := by omega
    rcases this with rfl | rfl | rfl <;> simp only [Nat.zero_add, Nat.reduceAdd] at hl <;> omega
theorem ref_end {d : List UInt8} {n c least : Nat} (hd : d ≠ []) (hR : RefSt (bt d 0) n c least) (hl : 1 + n ≤ d.length) (h : ∀ q, 1 ≤ q → q ≤ n → 128 ≤ bt d q ∧ bt d q ≤ 191) :
    plainM d = if cR d c n < least ∨ 1114111 < cR d c n ∨ (55296 ≤ cR d c n ∧ cR d c n < 57344) then false else plainM (d.drop (1 + n)) := by
  have h1 := h 1 (by omega)
  have h2 := h 2 (by omega)
  have h3 := h 3 (by omega)
  unfold RefSt at hR
  rcases hR with ⟨rfl, rfl, rfl, hR⟩ | ⟨rfl, hc, rfl, hR⟩ | ⟨rfl, hc, rfl, hR⟩ | ⟨rfl, hc, rfl, hR⟩
  · rw [ref_ascii hd (by omega), if_neg (by omega), if_neg (by show ¬ (bt d 0 < 0 ∨ 1114111 < bt d 0 ∨ (55296 ≤ bt d 0 ∧ bt d 0 < 57344)); omega)]
  · have e : cR d c 1 = (bt d 0 - 192) * 64 + bt d 1 - 128 := by show c * 64 + bt d 1 - 128 = _; omega
    have hd2 := dec_two (l := d) (by omega) (by omega)
    rw [e]
    by_cases hb : (bt d 0 - 192) * 64 + bt d 1 - 128 < 128
    · rw [if_pos (.inl hb)]
      exact ref_bad hd (by rw [hd2, if_pos (by omega)])
    · rw [if_neg (by omega)]
      exact ref_good hd (by rw [hd2, if_neg (by omega)]) (by omega) (by omega)
  · have e : cR d c 2 = ((bt d 0 - 224) * 64 + bt d 1 - 128) * 64 + bt d 2 - 128 := by show (c * 64 + bt d 1 - 128) * 64 + bt d 2 - 128 = _; omega
    have hd2 := dec_three (l := d) (by omega) (by omega)
    obtain ⟨C, hC⟩ : ∃ C, C = ((bt d 0 - 224) * 64 + bt d 1 - 128) * 64 + bt d 2 - 128 := ⟨_, rfl⟩
    have hlt : C ≤ 65535 := by omega
    rw [e, ← hC]
    rw [← hC] at hd2
    by_cases hb : C < 2048 ∨ (55296 ≤ C ∧ C < 57344)
    · rw [if_pos (by omega)]
      exact ref_bad hd (by rw [hd2, if_pos (by omega)])
    · rw [if_neg (by omega)]
      exact ref_good hd (by rw [hd2, if_neg (by omega)]) (by omega) (by omega)
  · have e : cR d c 3 = (((bt d 0 - 240) * 64 + bt d 1 - 128) * 64 + bt d 2 - 128) * 64 + bt d 3 - 128 := by show ((c * 64 + bt d 1 - 128) * 64 + bt d 2 - 128) * 64 + bt d 3 - 128 = _; omega
    have hd2 := dec_four (l := d) (by omega) (by omega)
    obtain ⟨C, hC⟩ : ∃ C, C = (((bt d 0 - 240) * 64 + bt d 1 - 128) * 64 + bt d 2 - 128) * 64 + bt d 3 - 128 := ⟨_, rfl⟩
    rw [e, ← hC]
    rw [← hC] at hd2
    by_cases hb : C < 65536 ∨ 1114111 < C
    · rw [if_pos (by omega)]
      exact ref_bad hd (by rw [hd2, if_pos (by omega)])
    · rw [if_neg (by omega)]
      exact ref_good hd (by rw [hd2, if_neg (by omega)]) (by omega) (by omega)
theorem bt_drop (l : List UInt8) (i j : Nat) : bt (l.drop i) j = bt l (i + j) := by simp [bt, List.getD]
theorem dec_at (l : List UInt8) (i : Nat) : Utf8.decode ⟨l.toArray⟩ i = dec1 (l.drop i) := by
  unfold dec1
  rw [Lib.decode_at, ba_bang, ba_bang, ba_bang, ba_bang, bt_drop, bt_drop, bt_drop, bt_drop, List.length_drop]
  rfl
theorem dec1_le {d : List UInt8} (hd : d ≠ []) : (dec1 d).2 ≤ d.length := by
  have hp := List.length_pos_iff.2 hd
  unfold dec1 Lib.decodeN
  repeat' split
  all_goals first | (simp only; omega) | omega
end Am
end Go.Proofs.YtjckfbpdieijeaaGreatDoor

/- Chapter 7: which texts are plain. -/
namespace Go.Proofs.YtjckfbpdieijeaaGreatDoor
set_option linter.unusedVariables false
namespace Am
open Go.RowKit
set_option maxRecDepth 100000

theorem plain07_ac {gs : List Nat} [OkT gs] (l : List UInt8) (hl : l.length ≤ 1000000000) : ACp gs Tryz.prog 157 [strC l] (.c (.bool (plainM l))) := by
  refine ac_of 18 Tryz.func157 rfl rfl rfl (fun al w0 F0 St0 => ?_)
  refine jcr ?_
  refine jq jrm ?_
  refine seq_nil ?_
  refine jcs ?_
  refine jcr ?_
  refine jq jrm ?_
  refine jqe (e_range rfl rfl Tryz.underlying9 rfl rfl (fun p1 => ?_))
  refine seq_nil ?_
  refine code_block ?_
  refine l_loop (α := Nat) [2, 4, 7, 8, 9, 10, 11, 12, 13, 14, 15] (fun i => []) (fun i => [(some p1, .obj (iterOP ⟨l.toArray⟩ i))]) (fun i => i ≤ l.length ∧ noBadM (l.drop i) = noBadM l) (fun i => l.length - i) (0) ?_ (fun _ => rfl) ?_ ?_ ?_
  · exact ⟨Nat.zero_le _, rfl⟩
  · exact .nil
  · exact .same .nil
  · rintro i ⟨hi, he⟩
    refine jcr ?_
    refine seq_md (wanted_none rfl) (m_next rfl rfl rfl rfl rfl (fun n23 => ?_) (fun n23 => ?_))
    · refine jq jrx ?_
      refine seq_nil ?_
      refine jcs ?_
      refine jcT ?_
      refine code_skip (jtn ?_)
      refine code_block ?_
      refine jcr ?_
      refine jq jrx ?_
      refine jq jrm ?_
      refine seq_nil ?_
      have hd := dec_at l i
      have hlt : i < l.length := n23
      have hne : l.drop i ≠ [] := by intro e; have := congrArg List.length e; simp at this; omega
      have hw := dec1_width (l.drop i)
      have hwl := dec1_le hne
      simp only [List.length_drop] at hwl
      rw [← hd] at hw hwl
      refine jcr ?_
      refine jq jrm ?_
      refine jq jrc ?_
      refine jq jrm ?_
      refine jqsp 12 (fun g24 => ?_) fun g24 => ?_
      · refine jqs ?_
        refine jqs ?_
        refine jq jrpT ?_
        refine seq_nil ?_
        refine jcT ?_
        refine jcr ?_
        refine jq jrm ?_
        refine seq_nil ?_
        refine code_ret (jbr (jtr (jbr (jtr (jrt (hv := ?_))))))
        refine CEnt.bool ?_
        rw [plainM_two, ← he, noBadM_step hne, ← hd, if_pos ?_]
        · rfl
        · unfold badR; simp only [Bool.or_eq_true, decide_eq_true_eq]; omega
      refine jq jrm ?_
      refine jq jrc ?_
      refine jq jrpF ?_
      refine seq_nil ?_
      refine jcc (fun h24 => ?_) fun h24 => ?_
      · refine jcr ?_
        refine jq jrm ?_
        refine seq_nil ?_
        refine code_ret (jbr (jtr (jbr (jtr (jrt (hv := ?_))))))
        refine CEnt.bool ?_
        rw [plainM_two, ← he, noBadM_step hne, ← hd, if_pos ?_]
        · rfl
        · unfold badR; simp only [Bool.or_eq_true, decide_eq_true_eq]; omega
      refine code_skip (jbn (jtn ?_))
      refine jlend (i + (Utf8.decode ⟨l.toArray⟩ i).2) ?_ ?_ (h5 := ?_) (h7 := ?_)
      · refine ⟨by omega, ?_⟩
        have hb : ¬ badR (Utf8.decode ⟨l.toArray⟩ i).1 = true := by unfold badR; simp only [Bool.or_eq_true, decide_eq_true_eq]; omega
        rw [← he, noBadM_step hne, ← hd, if_neg hb, List.drop_drop]
      · show l.length - (i + (Utf8.decode ⟨l.toArray⟩ i).2) < l.length - i; omega
      · exact .nil
      · exact .same .nil
    · refine jq jrx ?_
      refine seq_nil ?_
      refine jcs ?_
      refine jcF ?_
      refine code_exit (jte (jte (jbx (jtn ?_))))
      refine jcr ?_
      refine jq jrm ?_
      refine jqe (jecP (valid_ac l (by omega)) ?_)
      refine jq jrm ?_
      refine seq_nil ?_
      refine code_ret (jrt (hv := ?_))
      refine CEnt.bool ?_
      have e : l.drop i = [] := List.drop_eq_nil_of_le (Nat.le_of_not_lt n23)
      rw [plainM_two, ← he, e]
      rfl


set_option maxHeartbeats 4000000 in
theorem rplain_ac {gs : List Nat} (l : List UInt8) (hl : l.length ≤ 1000000000) : ACp gs Tryz.prog 130 [strC l] (.c (.bool (plainM l))) := by
  refine ac_of 94 Tryz.func130 rfl rfl rfl (fun al w0 F0 St0 => ?_)
  refine jcr ?_
  refine jq jrm ?_
  refine seq_nil ?_
  refine jcr ?_
  refine jq jrm ?_
  refine seq_nil ?_
  refine jcs ?_
  refine code_block ?_
  refine l_loop (α := Nat) [2, 3, 4, 5, 6, 7, 8, 9, 10, 11, 12, 13, 14, 15, 16, 17, 18, 19, 20, 21, 22, 23, 24, 25, 26, 27, 28, 29, 30, 31, 32, 33, 34, 35, 36, 37, 38, 39, 40, 41, 42, 43, 44, 45, 46, 47, 48, 49, 50, 51, 52, 53, 54, 55, 56, 57, 58, 59, 60, 61, 62, 63, 64, 65, 66, 67, 68, 69, 70, 71, 72, 73, 74, 75, 76, 77, 78, 79, 80, 81, 82, 83, 84, 85, 86, 87, 88, 89, 90, 91, 92, 93] (fun i => [(3, .c (.int .i64 (i : Nat)))]) (fun _ => []) (fun i => i ≤ l.length ∧ plainM (l.drop i) = plainM l) (fun i => l.length - i) (0) ?_ (fun _ => rfl) ?_ ?_ ?_
  · exact ⟨Nat.zero_le _, rfl⟩
  · exact .cons (CEnt.refl _) .nil
  · (repeat (first | exact HEnt.nil | refine HEnt.same ?_ | refine HEnt.blk rfl (fun j hj => by rcases j with _|_|_|_|_|_|_|_|j <;> first | exact CEnt.refl _ | exact CEnt.int (by omega) | omega) ?_))
  · rintro i ⟨hi, he⟩
    refine jcs ?_
    refine jcr ?_
    refine jq jrm ?_
    refine jq jrm ?_
    refine jq jrls ?_
    refine jq jrc ?_
    refine seq_nil ?_
    refine jcc (fun h9 => ?_) fun h9 => ?_
    rotate_left
    · refine code_exit (jte (jte (jbx (jtn ?_))))
      refine jcr ?_
      refine jq jrm ?_
      refine seq_nil ?_
      refine code_ret (jrt (hv := ?_))
      refine CEnt.bool ?_
      rw [← he, List.drop_eq_nil_of_le (by omega)]
      rfl
    refine code_skip (jtn ?_)
    refine code_block ?_
    refine jcr ?_
    refine jq jrm ?_
    refine jq jrm ?_
    refine jq jrix ?_
    refine jq (jrv8 .i64) ?_
    refine jq jrm ?_
    refine jq jrm ?_
    refine jq jrm ?_
    refine seq_nil ?_
    have hlt : i < l.length := by omega
    have hne : l.drop i ≠ [] := by intro e; have := congrArg List.length e; simp at this; omega
    obtain ⟨b, hb⟩ : ∃ b, b = bt (l.drop i) 0 := ⟨_, rfl⟩
    have hbl : b < 256 := by rw [hb]; exact bt_lt _ _
    refine code_join (α := Nat × Nat × Nat) [2, 4, 5, 6, 15, 16, 17, 18, 19, 20, 21, 22, 23, 24, 25, 26, 27, 28, 29, 30, 31, 32, 33, 34, 35, 36, 37, 38, 39, 40, 41, 42, 43, 44, 45, 46] (fun (n, c, z) => [(4, .c (.int .i64 (c : Nat))), (5, .c (.int .i64 (n : Nat))), (6, .c (.int .i64 (z : Nat)))]) (fun _ => []) (fun (n, c, z) => RefSt (bt (l.drop i) 0) n c z) (fun _ => rfl) ?_ ?_
    · refine code_ent (weaken 4 (.c (.int .i64 (b : Nat))) (CEnt.int (by rw [hb, bt_drop]; rfl))) ?_
      refine jcr ?_
      refine jq jrm ?_
      refine jq jrc ?_
      refine seq_nil ?_
      refine jcc (fun h11 => ?_) fun h11 => ?_
      · refine jcr ?_
        refine jq jrm ?_
        refine jq jrc ?_
        refine jq jrm ?_
        refine jqsp 19 (fun g12 => ?_) fun g12 => ?_
        · refine jqs ?_
          refine jqs ?_
          refine jq jrpT ?_
          refine seq_nil ?_
          refine jcT ?_
          refine jcr ?_
          refine jq jrm ?_
          refine seq_nil ?_
          refine code_ret (jtr (jbr (jtr (jbr (jtr (jrt (hv := ?_)))))))
          refine CEnt.bool ?_
          rw [← he, ref_ascii hne (by rw [← hb]; omega), if_pos (by rw [← hb]; omega)]
        refine jq jrm ?_
        refine jq jrc ?_
        refine jq jrpF ?_
        refine seq_nil ?_
        refine jcc (fun h12 => ?_) fun h12 => ?_
        rotate_left
        · refine code_skip (jtn ?_)
          refine jjend ((0, b, 0)) ?_ (h5 := ?_)
          · show RefSt (bt (l.drop i) 0) _ _ _
            rw [← hb]; unfold RefSt; omega
          · exact .cons (CEnt.int (by omega)) (.cons (CEnt.int (by omega)) (.cons (CEnt.int (by omega)) .nil))
        refine jcr ?_
        refine jq jrm ?_
        refine seq_nil ?_
        refine code_ret (jtr (jbr (jtr (jbr (jtr (jrt (hv := ?_)))))))
        refine CEnt.bool ?_
        rw [← he, ref_ascii hne (by rw [← hb]; omega), if_pos (by rw [← hb]; omega)]
      refine jcr ?_
      refine jq jrm ?_
      refine jq jrc ?_
      refine jq jrm ?_
      refine jqsp 25 (fun g15 => ?_) fun g15 => ?_
      rotate_left
      · refine jqs ?_
        refine jqs ?_
        refine jq jrpF ?_
        refine seq_nil ?_
        refine jcF ?_
        refine jcr ?_
        refine jq jrm ?_
        refine jq jrc ?_
        refine jq jrm ?_
        refine jqsp 33 (fun g17 => ?_) fun g17 => ?_
        rotate_left
        · refine jqs ?_
          refine jqs ?_
          refine jq jrpF ?_
          refine seq_nil ?_
          refine jcF ?_
          refine jcr ?_
          refine jq jrm ?_
          refine jq jrc ?_
          refine jq jrm ?_
          refine jqsp 41 (fun g19 => ?_) fun g19 => ?_
          rotate_left
          · refine jqs ?_
            refine jqs ?_
            refine jq jrpF ?_
            refine seq_nil ?_
            refine jcF ?_
            refine jcr ?_
            refine jq jrm ?_
            refine seq_nil ?_
            refine code_ret (jtr (jbr (jtr (jbr (jtr (jrt (hv := ?_)))))))
            refine CEnt.bool ?_
            rw [← he, ref_bad hne (dec_head_bad (by rw [← hb]; omega) (by rw [← hb]; omega))]
          refine jq jrm ?_
          refine jq jrc ?_
          refine jq jrpT ?_
          refine seq_nil ?_
          refine jcc (fun h19 => ?_) fun h19 => ?_
          rotate_left
          · refine jcr ?_
            refine jq jrm ?_
            refine seq_nil ?_
            refine code_ret (jtr (jbr (jtr (jbr (jtr (jrt (hv := ?_)))))))
            refine CEnt.bool ?_
            rw [← he, ref_bad hne (dec_head_bad (by rw [← hb]; omega) (by rw [← hb]; omega))]
          refine jcg ?_
          refine jq jrm ?_
          refine jq jra ?_
          refine jq jrm ?_
          refine jq jrm ?_
          refine jq jrm ?_
          refine seq_nil ?_
          refine jtn ?_
          refine jjend ((3, b - 240, 65536)) ?_ (h5 := ?_)
          · show RefSt (bt (l.drop i) 0) _ _ _
            rw [← hb]; unfold RefSt; omega
          · exact .cons (CEnt.int (by omega)) (.cons (CEnt.int (by omega)) (.cons (CEnt.int (by omega)) .nil))
        refine jq jrm ?_
        refine jq jrc ?_
        refine jq jrpT ?_
        refine seq_nil ?_
        refine jcc (fun h17 => ?_) fun h17 => ?_
        · refine jcg ?_
          refine jq jrm ?_
          refine jq jra ?_
          refine jq jrm ?_
          refine jq jrm ?_
          refine jq jrm ?_
          refine seq_nil ?_
          refine jtn ?_
          refine jjend ((3, b - 240, 65536)) ?_ (h5 := ?_)
          · show RefSt (bt (l.drop i) 0) _ _ _
            rw [← hb]; unfold RefSt; omega
          · exact .cons (CEnt.int (by omega)) (.cons (CEnt.int (by omega)) (.cons (CEnt.int (by omega)) .nil))
        refine jcr ?_
        refine jq jrm ?_
        refine jq jrc ?_
        refine jq jrm ?_
        refine jqsp 41 (fun g19 => ?_) fun g19 => ?_
        rotate_left
        · refine jqs ?_
          refine jqs ?_
          refine jq jrpF ?_
          refine seq_nil ?_
          refine jcF ?_
          refine jcr ?_
          refine jq jrm ?_
          refine seq_nil ?_
          refine code_ret (jtr (jbr (jtr (jbr (jtr (jrt (hv := ?_)))))))
          refine CEnt.bool ?_
          rw [← he, ref_bad hne (dec_head_bad (by rw [← hb]; omega) (by rw [← hb]; omega))]
        refine jq jrm ?_
        refine jq jrc ?_
        refine jq jrpT ?_
        refine seq_nil ?_
        refine jcc (fun h19 => ?_) fun h19 => ?_
        rotate_left
        · refine jcr ?_
          refine jq jrm ?_
          refine seq_nil ?_
          refine code_ret (jtr (jbr (jtr (jbr (jtr (jrt (hv := ?_)))))))
          refine CEnt.bool ?_
          rw [← he, ref_bad hne (dec_head_bad (by rw [← hb]; omega) (by rw [← hb]; omega))]
        refine jcg ?_
        refine jq jrm ?_
        refine jq jra ?_
        refine jq jrm ?_
        refine jq jrm ?_
        refine jq jrm ?_
        refine seq_nil ?_
        refine jtn ?_
        refine jjend ((3, b - 240, 65536)) ?_ (h5 := ?_)
        · show RefSt (bt (l.drop i) 0) _ _ _
          rw [← hb]; unfold RefSt; omega
        · exact .cons (CEnt.int (by omega)) (.cons (CEnt.int (by omega)) (.cons (CEnt.int (by omega)) .nil))
      refine jq jrm ?_
      refine jq jrc ?_
      refine jq jrpT ?_
      refine seq_nil ?_
      refine jcc (fun h15 => ?_) fun h15 => ?_
      · refine jcg ?_
        refine jq jrm ?_
        refine jq jra ?_
        refine jq jrm ?_
        refine jq jrm ?_
        refine jq jrm ?_
        refine seq_nil ?_
        refine jtn ?_
        refine jjend ((1, b - 192, 128)) ?_ (h5 := ?_)
        · show RefSt (bt (l.drop i) 0) _ _ _
          rw [← hb]; unfold RefSt; omega
        · exact .cons (CEnt.int (by omega)) (.cons (CEnt.int (by omega)) (.cons (CEnt.int (by omega)) .nil))
      refine jcr ?_
      refine jq jrm ?_
      refine jq jrc ?_
      refine jq jrm ?_
      refine jqsp 33 (fun g17 => ?_) fun g17 => ?_
      rotate_left
      · refine jqs ?_
        refine jqs ?_
        refine jq jrpF ?_
        refine seq_nil ?_
        refine jcF ?_
        refine jcr ?_
        refine jq jrm ?_
        refine jq jrc ?_
        refine jq jrm ?_
        refine jqsp 41 (fun g19 => ?_) fun g19 => ?_
        rotate_left
        · refine jqs ?_
          refine jqs ?_
          refine jq jrpF ?_
          refine seq_nil ?_
          refine jcF ?_
          refine jcr ?_
          refine jq jrm ?_
          refine seq_nil ?_
          refine code_ret (jtr (jbr (jtr (jbr (jtr (jrt (hv := ?_)))))))
          refine CEnt.bool ?_
          rw [← he, ref_bad hne (dec_head_bad (by rw [← hb]; omega) (by rw [← hb]; omega))]
        refine jq jrm ?_
        refine jq jrc ?_
        refine jq jrpT ?_
        refine seq_nil ?_
        refine jcc (fun h19 => ?_) fun h19 => ?_
        rotate_left
        · refine jcr ?_
          refine jq jrm ?_
          refine seq_nil ?_
          refine code_ret (jtr (jbr (jtr (jbr (jtr (jrt (hv := ?_)))))))
          refine CEnt.bool ?_
          rw [← he, ref_bad hne (dec_head_bad (by rw [← hb]; omega) (by rw [← hb]; omega))]
        refine jcg ?_
        refine jq jrm ?_
        refine jq jra ?_
        refine jq jrm ?_
        refine jq jrm ?_
        refine jq jrm ?_
        refine seq_nil ?_
        refine jtn ?_
        refine jjend ((3, b - 240, 65536)) ?_ (h5 := ?_)
        · show RefSt (bt (l.drop i) 0) _ _ _
          rw [← hb]; unfold RefSt; omega
        · exact .cons (CEnt.int (by omega)) (.cons (CEnt.int (by omega)) (.cons (CEnt.int (by omega)) .nil))
      refine jq jrm ?_
      refine jq jrc ?_
      refine jq jrpT ?_
      refine seq_nil ?_
      refine jcc (fun h17 => ?_) fun h17 => ?_
      · refine jcg ?_
        refine jq jrm ?_
        refine jq jra ?_
        refine jq jrm ?_
        refine jq jrm ?_
        refine jq jrm ?_
        refine seq_nil ?_
        refine jtn ?_
        refine jjend ((2, b - 224, 2048)) ?_ (h5 := ?_)
        · show RefSt (bt (l.drop i) 0) _ _ _
          rw [← hb]; unfold RefSt; omega
        · exact .cons (CEnt.int (by omega)) (.cons (CEnt.int (by omega)) (.cons (CEnt.int (by omega)) .nil))
      refine jcr ?_
      refine jq jrm ?_
      refine jq jrc ?_
      refine jq jrm ?_
      refine jqsp 41 (fun g19 => ?_) fun g19 => ?_
      rotate_left
      · refine jqs ?_
        refine jqs ?_
        refine jq jrpF ?_
        refine seq_nil ?_
        refine jcF ?_
        refine jcr ?_
        refine jq jrm ?_
        refine seq_nil ?_
        refine code_ret (jtr (jbr (jtr (jbr (jtr (jrt (hv := ?_)))))))
        refine CEnt.bool ?_
        rw [← he, ref_bad hne (dec_head_bad (by rw [← hb]; omega) (by rw [← hb]; omega))]
      refine jq jrm ?_
      refine jq jrc ?_
      refine jq jrpT ?_
      refine seq_nil ?_
      refine jcc (fun h19 => ?_) fun h19 => ?_
      rotate_left
      · refine jcr ?_
        refine jq jrm ?_
        refine seq_nil ?_
        refine code_ret (jtr (jbr (jtr (jbr (jtr (jrt (hv := ?_)))))))
        refine CEnt.bool ?_
        rw [← he, ref_bad hne (dec_head_bad (by rw [← hb]; omega) (by rw [← hb]; omega))]
      refine jcg ?_
      refine jq jrm ?_
      refine jq jra ?_
      refine jq jrm ?_
      refine jq jrm ?_
      refine jq jrm ?_
      refine seq_nil ?_
      refine jtn ?_
      refine jjend ((3, b - 240, 65536)) ?_ (h5 := ?_)
      · show RefSt (bt (l.drop i) 0) _ _ _
        rw [← hb]; unfold RefSt; omega
      · exact .cons (CEnt.int (by omega)) (.cons (CEnt.int (by omega)) (.cons (CEnt.int (by omega)) .nil))
    · rintro ⟨n0, c0, least⟩ hR0
      have hR : RefSt (bt (l.drop i) 0) n0 c0 least := hR0
      clear hR0
      have hRb := hR
      rw [← hb] at hRb
      unfold RefSt at hRb
      have hn3 : n0 ≤ 3 := by omega
      have hc128 : c0 < 128 := by omega
      have hl6 : least ≤ 65536 := by omega
      clear hRb
      refine jcr ?_
      refine jq jrm ?_
      refine jq jra ?_
      refine jq jrm ?_
      refine seq_nil ?_
      refine jcs ?_
      refine code_block ?_
      refine l_loop (α := Nat) [2, 3, 4, 5, 49, 50, 51, 52, 53, 54, 55, 56, 57, 58, 59, 60, 61, 62, 63, 64, 65, 66, 67, 68, 69, 70, 71, 72, 73, 74, 75, 76, 77, 78] (fun j => [(3, .c (.int .i64 (((i + 1 + j : Nat) : Int)))), (4, .c (.int .i64 (cR (l.drop i) c0 j : Nat))), (5, .c (.int .i64 ((n0 - j : Nat) : Int)))]) (fun _ => []) (fun j => j ≤ n0 ∧ i + 1 + j ≤ l.length ∧ ∀ q, 1 ≤ q → q ≤ j → 128 ≤ bt (l.drop i) q ∧ bt (l.drop i) q ≤ 191) (fun j => n0 - j) (0) ?_ (fun _ => rfl) ?_ ?_ ?_
      · exact ⟨Nat.zero_le _, by omega, fun q h1 h2 => by omega⟩
      · exact .cons (CEnt.int (by omega)) (.cons (CEnt.refl _) (.cons (CEnt.refl _) .nil))
      · (repeat (first | exact HEnt.nil | refine HEnt.same ?_ | refine HEnt.blk rfl (fun j hj => by rcases j with _|_|_|_|_|_|_|_|j <;> first | exact CEnt.refl _ | exact CEnt.int (by omega) | omega) ?_))
      · rintro j ⟨hj, hil, hq⟩
        have hcb := cR_bd (d := l.drop i) (c0 := c0) (j := j) (by omega) hc128 hq
        refine jcs ?_
        refine jcr ?_
        refine jq jrm ?_
        refine jq jrc ?_
        refine seq_nil ?_
        refine jcc (fun h25 => ?_) fun h25 => ?_
        rotate_left
        · refine code_exit (jte (jte (jbx (jtn ?_))))
          have hjn : j = n0 := by omega
          subst hjn
          obtain ⟨C, hjn⟩ : ∃ C, C = cR (l.drop i) c0 j := ⟨_, rfl⟩
          rw [← hjn] at hcb
          refine code_ent (weaken 4 (.c (.int .i64 (C : Nat))) (CEnt.int (by rw [hjn]))) ?_
          refine jcr ?_
          refine jq jrm ?_
          refine jq jrm ?_
          refine jq jrc ?_
          refine jq jrm ?_
          refine jqsp 82 (fun g32 => ?_) fun g32 => ?_
          · refine jqs ?_
            refine jqs ?_
            refine jq jrpT ?_
            refine jq jrm ?_
            refine jqs ?_
            refine jqs ?_
            refine jqs ?_
            refine jqs ?_
            refine jqs ?_
            refine jqs ?_
            refine jq jrpT ?_
            refine seq_nil ?_
            refine jcT ?_
            refine jcr ?_
            refine jq jrm ?_
            refine seq_nil ?_
            refine code_ret (jbr (jtr (jbr (jtr (jrt (hv := ?_))))))
            refine CEnt.bool ?_
            rw [← he, ref_end hne hR (by rw [List.length_drop]; omega) hq, if_pos (by rw [← hjn]; omega)]
          refine jq jrm ?_
          refine jq jrc ?_
          refine jq jrpF ?_
          refine jq jrm ?_
          refine jqsp 86 (fun g32_2 => ?_) fun g32_2 => ?_
          · refine jqs ?_
            refine jqs ?_
            refine jqs ?_
            refine jqs ?_
            refine jqs ?_
            refine jqs ?_
            refine jq jrpT ?_
            refine seq_nil ?_
            refine jcT ?_
            refine jcr ?_
            refine jq jrm ?_
            refine seq_nil ?_
            refine code_ret (jbr (jtr (jbr (jtr (jrt (hv := ?_))))))
            refine CEnt.bool ?_
            rw [← he, ref_end hne hR (by rw [List.length_drop]; omega) hq, if_pos (by rw [← hjn]; omega)]
          refine jq jrm ?_
          refine jq jrc ?_
          refine jq jrm ?_
          refine jqsp 89 (fun g32_3 => ?_) fun g32_3 => ?_
          rotate_left
          · refine jqs ?_
            refine jqs ?_
            refine jq jrpF ?_
            refine jq jrpF ?_
            refine seq_nil ?_
            refine jcF ?_
            refine code_skip (jbn (jtn ?_))
            refine jlend (i + (1 + j)) ?_ ?_ (h5 := ?_)
            · refine ⟨by omega, ?_⟩
              rw [← he, ref_end hne hR (by rw [List.length_drop]; omega) hq, if_neg (by rw [← hjn]; omega), List.drop_drop]
            · show l.length - (i + (1 + j)) < l.length - i; omega
            · exact .cons (CEnt.int (by omega)) .nil
          refine jq jrm ?_
          refine jq jrc ?_
          refine jq jrpT ?_
          refine jq jrpF ?_
          refine seq_nil ?_
          refine jcc (fun h32 => ?_) fun h32 => ?_
          · refine jcr ?_
            refine jq jrm ?_
            refine seq_nil ?_
            refine code_ret (jbr (jtr (jbr (jtr (jrt (hv := ?_))))))
            refine CEnt.bool ?_
            rw [← he, ref_end hne hR (by rw [List.length_drop]; omega) hq, if_pos (by rw [← hjn]; omega)]
          refine code_skip (jbn (jtn ?_))
          refine jlend (i + (1 + j)) ?_ ?_ (h5 := ?_)
          · refine ⟨by omega, ?_⟩
            rw [← he, ref_end hne hR (by rw [List.length_drop]; omega) hq, if_neg (by rw [← hjn]; omega), List.drop_drop]
          · show l.length - (i + (1 + j)) < l.length - i; omega
          · exact .cons (CEnt.int (by omega)) .nil
        refine code_skip (jtn ?_)
        refine jcs ?_
        refine code_block ?_
        refine jcs ?_
        obtain ⟨x, hx⟩ : ∃ x, x = bt (l.drop i) (j + 1) := ⟨_, rfl⟩
        have hx2 : (l.getD (i + 1 + j) 0).toNat = x := by rw [hx, bt_drop, show i + (j + 1) = i + 1 + j by omega]; rfl
        have hxl : x < 256 := by rw [hx]; exact bt_lt _ _
        refine jcr ?_
        refine jq jrm ?_
        refine jq jrm ?_
        refine jq jrls ?_
        refine jq jrc ?_
        refine jq jrm ?_
        refine jqsp 57 (fun g26 => ?_) fun g26 => ?_
        · refine jqs ?_
          refine jqs ?_
          refine jqs ?_
          refine jqs ?_
          refine jq jrpT ?_
          refine jq jrm ?_
          refine jqs ?_
          refine jqs ?_
          refine jqs ?_
          refine jqs ?_
          refine jq jrpT ?_
          refine seq_nil ?_
          refine jcT ?_
          refine jcr ?_
          refine jq jrm ?_
          refine seq_nil ?_
          refine code_ret (jtr (jbr (jtr (jtr (jbr (jtr (jbr (jtr (jbr (jtr (jrt (hv := ?_))))))))))))
          refine CEnt.bool ?_
          rw [← he, ref_cont hne hR (show j < n0 by omega) (by rw [← hx, List.length_drop]; omega)]
        refine jq jrm ?_
        refine jq jrm ?_
        refine jq jrix ?_
        refine jq jrc ?_
        refine jq jrpF ?_
        refine jq jrm ?_
        refine jqsp 63 (fun g26_2 => ?_) fun g26_2 => ?_
        · refine jqs ?_
          refine jqs ?_
          refine jqs ?_
          refine jqs ?_
          refine jq jrpT ?_
          refine seq_nil ?_
          refine jcT ?_
          refine jcr ?_
          refine jq jrm ?_
          refine seq_nil ?_
          refine code_ret (jtr (jbr (jtr (jtr (jbr (jtr (jbr (jtr (jbr (jtr (jrt (hv := ?_))))))))))))
          refine CEnt.bool ?_
          rw [← he, ref_cont hne hR (show j < n0 by omega) (by rw [← hx, List.length_drop]; omega)]
        refine jq jrm ?_
        refine jq jrm ?_
        refine jq jrix ?_
        refine jq jrc ?_
        refine jq jrpF ?_
        refine seq_nil ?_
        refine jcc (fun h26 => ?_) fun h26 => ?_
        · refine jcr ?_
          refine jq jrm ?_
          refine seq_nil ?_
          refine code_ret (jtr (jbr (jtr (jtr (jbr (jtr (jbr (jtr (jbr (jtr (jrt (hv := ?_))))))))))))
          refine CEnt.bool ?_
          rw [← he, ref_cont hne hR (show j < n0 by omega) (by rw [← hx, List.length_drop]; omega)]
        refine code_skip (jtn ?_)
        refine jcr ?_
        refine jq jrm ?_
        refine jq jra ?_
        refine jq jrm ?_
        refine jq jrm ?_
        refine jq jrix ?_
        refine jq (jrv8 .i64) ?_
        refine jq jra ?_
        refine jq jra ?_
        refine jq jrm ?_
        refine seq_nil ?_
        refine jcg ?_
        refine jq jrm ?_
        refine jq jra ?_
        refine jq jrm ?_
        refine seq_nil ?_
        refine jbn (jtn ?_)
        refine jcg ?_
        refine jq jrm ?_
        refine jq jra ?_
        refine jq jrm ?_
        refine seq_nil ?_
        refine jtn ?_
        refine jlend (j + 1) ?_ ?_ (h5 := ?_)
        · refine ⟨by omega, by omega, fun q h1 h2 => ?_⟩
          by_cases e : q = j + 1
          · rw [e, ← hx]; omega
          · exact hq q h1 (by omega)
        · show n0 - (j + 1) < n0 - j; omega
        · exact .cons (CEnt.int (by omega)) (.cons (CEnt.int (by show _ = ((cR (l.drop i) c0 j * 64 + bt (l.drop i) (j + 1) - 128 : Nat) : Int); rw [← hx]; omega)) (.cons (CEnt.int (by omega)) .nil))
end Am
end Go.Proofs.YtjckfbpdieijeaaGreatDoor

/- Chapter 7, plain: shifts and bits of numbers as the program computes them. -/
namespace Go.Proofs.YtjckfbpdieijeaaGreatDoor
namespace Am
open Go.RowKit
set_option linter.unusedVariables false
set_option maxRecDepth 100000

theorem shr_nat {M i b : Nat} (h : i ≤ b) : Int.fdiv ((M : Nat) : Int) (2 ^ (min ((i : Nat) : Int).toNat b)) = ((M / 2 ^ i : Nat) : Int) := by
  rw [Int.toNat_natCast, Nat.min_eq_left h, show ((2 : Int) ^ i) = ((2 ^ i : Nat) : Int) by push_cast; rfl, Int.fdiv_eq_ediv_of_nonneg _ (Int.natCast_nonneg _)]
  exact (Int.natCast_ediv M (2 ^ i)).symm
theorem wrap16 (n : Int) : IntKind.u16.wrap n = n % 65536 := by simp [IntKind.wrap, IntKind.bits, IntKind.signed]
theorem shl8_16 {M : Nat} (z : Int) (hz : z = 8) : IntKind.u16.wrap (((M : Nat) : Int) * 2 ^ (min z.toNat 16)) = ((M % 256 * 256 : Nat) : Int) := by
  subst hz
  rw [wrap16, show min (8 : Int).toNat 16 = 8 from rfl, show ((2 : Int) ^ 8) = 256 from rfl]
  omega
theorem shr8_16 {M : Nat} (z : Int) (hz : z = 8) : Int.fdiv ((M : Nat) : Int) (2 ^ (min z.toNat 16)) = ((M / 256 : Nat) : Int) := by
  subst hz
  rw [show min (8 : Int).toNat 16 = 8 from rfl, show ((2 : Int) ^ 8) = ((256 : Nat) : Int) from rfl, Int.fdiv_eq_ediv_of_nonneg _ (by omega)]
  exact (Int.natCast_ediv M 256).symm
theorem shr8_64 {M : Nat} (z : Int) (hz : z = 8) : Int.fdiv ((M : Nat) : Int) (2 ^ (min z.toNat 64)) = ((M / 256 : Nat) : Int) := by
  subst hz
  rw [show min (8 : Int).toNat 64 = 8 from rfl, show ((2 : Int) ^ 8) = ((256 : Nat) : Int) from rfl, Int.fdiv_eq_ediv_of_nonneg _ (by omega)]
  exact (Int.natCast_ediv M 256).symm
theorem bv16 {a : Nat} (h : a < 65536) : BitVec.ofInt 16 ((a : Nat) : Int) = BitVec.ofNat 16 a := by
  apply BitVec.eq_of_toNat_eq; simp
theorem and255 {M : Nat} (h : M < 65536) : IntKind.u16.wrap ((BitVec.ofInt 16 ((M : Nat) : Int) &&& BitVec.ofInt 16 255).toNat : Int) = ((M % 256 : Nat) : Int) := by
  have e : (BitVec.ofInt 16 ((M : Nat) : Int) &&& BitVec.ofInt 16 255).toNat = M % 256 := by
    rw [bv16 h, show BitVec.ofInt 16 (255 : Int) = BitVec.ofNat 16 255 from rfl, BitVec.toNat_and, BitVec.toNat_ofNat, BitVec.toNat_ofNat, Nat.mod_eq_of_lt (show M < 2 ^ 16 from h)]
    exact Nat.and_two_pow_sub_one_eq_mod M 8
  rw [e, wrap16]; omega
theorem or_hl {a b : Nat} (ha : a < 256) (hb : b < 256) : IntKind.u16.wrap ((BitVec.ofInt 16 ((a : Nat) : Int) ||| BitVec.ofInt 16 ((b * 256 : Nat) : Int)).toNat : Int) = ((a + 256 * b : Nat) : Int) := by
  have e : (BitVec.ofInt 16 ((a : Nat) : Int) ||| BitVec.ofInt 16 ((b * 256 : Nat) : Int)).toNat = a + 256 * b := by
    rw [bv16 (by omega), bv16 (by omega), BitVec.toNat_or, BitVec.toNat_ofNat, BitVec.toNat_ofNat, Nat.mod_eq_of_lt (show a < 2 ^ 16 by omega), Nat.mod_eq_of_lt (show b * 256 < 2 ^ 16 by omega), Nat.or_comm]
    have := Nat.two_pow_add_eq_or_of_lt (i := 8) (b := a) (by omega) b
    rw [show b * 256 = 2 ^ 8 * b by omega, ← this]; omega
  rw [e, wrap16]; omega
/-! ### the reference's reading of a body -/
/-- the bits of a body, the first one lowest -/
def bitsR (b : List UInt8) : Nat := rev8 (b.getD 1 0).toNat + 256 * (if b.length = 3 then rev8 (b.getD 2 0).toNat else 0)
theorem shr128' {z : Int} (q : Nat) (hz : z = (q : Int)) (h : q < 8) : Int.fdiv 128 (2 ^ (min z.toNat 8)) = ((2 ^ (7 - q) : Nat) : Int) := by
  subst hz
  have := all_lt (n := 8) (p := fun q => Int.fdiv 128 (2 ^ (min ((q : Nat) : Int).toNat 8)) == ((2 ^ (7 - q) : Nat) : Int)) (by decide) h
  exact eq_of_beq this
theorem shr_natI {M b : Nat} {z : Int} (q : Nat) (hz : z = (q : Int)) (h : q ≤ b) : Int.fdiv ((M : Nat) : Int) (2 ^ (min z.toNat b)) = ((M / 2 ^ q : Nat) : Int) := by
  subst hz; exact shr_nat h
theorem tab_wrap {k : IntKind} {L T : List UInt8} {i v : Nat} (h : L = T) (hv : (T.getD i 0).toNat = v) (hk : wide8 k = true) : k.wrap ((L.getD i 0).toNat : Int) = ((v : Nat) : Int) := by
  rw [h, hv]; have := UInt8.toNat_lt (T.getD i 0); exact wide8_wrap hk (by omega) (by omega)
/-- the bits of a mask, turned, while its bytes are laid -/
def turnM (m : Nat) : Nat → Nat
  | 0 => rev16 m
  | j + 1 => turnM m j % 256 * 256
def outL (m : Nat) : Nat → List UInt8
  | 0 => [UInt8.ofNat ((8 - bl m % 8) % 8)]
  | j + 1 => outL m j ++ [UInt8.ofNat (turnM m j / 256)]
theorem turnM_lt {m : Nat} (h : m < 65536) (j : Nat) : turnM m j < 65536 := by
  cases j with
  | zero => exact rev16_lt h
  | succ j => show turnM m j % 256 * 256 < 65536; omega
theorem outL_len (m j : Nat) : (outL m j).length = 1 + j := by
  induction j with
  | zero => rfl
  | succ j ih => show (outL m j ++ _).length = _; rw [List.length_append, ih, List.length_singleton]; omega
theorem outL_end {m : Nat} (h : m < 65536) : outL m ((bl m + 7) / 8) = flagsL m := by
  have h3 := (bl_is h).2
  have r1 := rev8_lt (i := m / 256) (by omega)
  have r2 := rev8_lt (i := m % 256) (by omega)
  have t0 : turnM m 0 / 256 = rev8 (m % 256) := by show rev16 m / 256 = _; unfold rev16; omega
  have t1 : turnM m 1 / 256 = rev8 (m / 256) := by show rev16 m % 256 * 256 / 256 = _; unfold rev16; omega
  unfold flagsL
  by_cases h0 : bl m = 0
  · rw [if_pos h0, h0]; simp only [Nat.reduceAdd, Nat.reduceDiv, outL, h0]
  · rw [if_neg h0]
    by_cases h8 : bl m ≤ 8
    · rw [if_pos h8, show (bl m + 7) / 8 = 1 by omega]; simp only [outL, t0]; rfl
    · rw [if_neg h8, show (bl m + 7) / 8 = 2 by omega]; simp only [outL, t0, t1]; rfl
/-- how many bits there are among the first ones -/
def bp (M : Nat) : Nat → Nat
  | 0 => 0
  | i + 1 => if M / 2 ^ i % 2 = 1 then i + 1 else bp M i
theorem bp_is (M i : Nat) : IsBl (M % 2 ^ i) (bp M i) ∧ bp M i ≤ i := by
  induction i with
  | zero => exact ⟨⟨by simp [Nat.mod_one, bp], .inl rfl⟩, Nat.le_refl _⟩
  | succ i ih => exact ⟨isBl_step ih.1 ih.2, by have h2 := ih.2; show (if M / 2 ^ i % 2 = 1 then i + 1 else bp M i) ≤ i + 1; split <;> omega⟩
theorem bp_end {M : Nat} (h : M < 32768) : bp M 15 = bl M := by
  have h1 := (bp_is M 15).1
  rw [show M % 2 ^ 15 = M by simp only [Nat.reducePow]; omega] at h1
  exact isBl_unique h1 (bl_is (by omega)).1
theorem gF_on' {M n i : Nat} (hb : M / 2 ^ i % 2 = 1) (hi : i < 15) (h : M < 32768) : gF M n i (1 + i / 8) + 2 ^ (7 - i % 8) < 256 := by
  have h1 := gF_on (n := n) (j := 1 + i / 8) hb (by omega) (by omega)
  rw [if_pos rfl] at h1
  rw [← h1]; exact gF_lt (by omega)
/-- a body's bits as a number of 16 bits, the first one highest -/
def turnedM (b : List UInt8) : Nat := (b.getD 1 0).toNat % 256 * 256 + (if b.length = 3 then (b.getD 2 0).toNat else 0)
end Am
end Go.Proofs.YtjckfbpdieijeaaGreatDoor

/- Chapter 7: bits in turn, masks and their bodies. -/
namespace Go.Proofs.YtjckfbpdieijeaaGreatDoor
set_option linter.unusedVariables false
namespace Am
variable {gs : List Nat} [OkG gs]
open Go.RowKit
set_option maxRecDepth 100000


theorem rev16_ac {gs : List Nat} (x : Nat) (hx : x < 65536) : ACp gs Tryz.prog 145 [.c (.int .u16 (x : Nat))] (.c (.int .u16 (rev16 x : Nat))) := by
  have h1 := rev8_lt (i := x / 256) (by omega)
  have h2 := rev8_lt (i := x % 256) (by omega)
  refine ac_of 13 Tryz.func145 rfl rfl rfl (fun al w0 F0 St0 => ?_)
  refine jcr ?_
  refine jq jrm ?_
  refine seq_nil ?_
  refine jcs ?_
  refine jcd (.rd 0 (.rd 1 (.rd 2 (.rd 3 (.rd 4 (.rd 5 (.rd 6 (.rd 7 (.rd 8 (.rd 9 (.rd 10 .done))))))))))) ?_
  refine jyq jrm ?_
  refine jyq (rd_shr rfl rfl rfl (by (omega)) (((x / 256 : Nat) : Int)) (shr8_16 _ rfl)) ?_
  refine jyq (rd_indexS rfl rfl rfl Tryz.underlying9 (show _ = ((x / 256 : Nat) : Int) by omega) (by exact Nat.lt_of_lt_of_eq (show x / 256 < 256 by omega) (by kernel_rfl))) ?_
  refine jyq (rd_convI rfl rfl Tryz.underlying5 Tryz.underlying181 (((rev8 (x / 256) : Nat) : Int)) (tab_wrap (T := rev8T) (by kernel_rfl) (rev8T_get (by omega)) rfl)) ?_
  refine jyq jrm ?_
  refine jyq (rd_and rfl rfl rfl (((x % 256 : Nat) : Int)) (and255 hx)) ?_
  refine jyq (rd_indexS rfl rfl rfl Tryz.underlying9 (show _ = ((x % 256 : Nat) : Int) by omega) (by exact Nat.lt_of_lt_of_eq (show x % 256 < 256 by omega) (by kernel_rfl))) ?_
  refine jyq (rd_convI rfl rfl Tryz.underlying5 Tryz.underlying181 (((rev8 (x % 256) : Nat) : Int)) (tab_wrap (T := rev8T) (by kernel_rfl) (rev8T_get (by omega)) rfl)) ?_
  refine jyq (rd_shl rfl rfl rfl (by (omega)) (((rev8 (x % 256) % 256 * 256 : Nat) : Int)) (shl8_16 _ rfl)) ?_
  refine jyq (rd_or rfl rfl rfl (((rev8 (x / 256) + 256 * (rev8 (x % 256) % 256) : Nat) : Int)) (or_hl h1 (by omega))) ?_
  refine jyq jrm ?_
  refine jyd ?_
  refine jtn ?_
  refine code_ret (jrt (hv := ?_))
  refine CEnt.int ?_
  unfold rev16; omega
theorem len64_ac {gs : List Nat} (m : Nat) (hm : m < 65536) : ACp gs Tryz.prog 163 [.c (.int .u64 (m : Nat))] (.c (.int .i64 (bl m : Nat))) := by
  refine ac_of 25 Tryz.func163 rfl rfl rfl (fun al w0 F0 St0 => ?_)
  refine jcr ?_
  refine jq jrm ?_
  refine seq_nil ?_
  refine jcs ?_
  refine jcr ?_
  refine jq jrm ?_
  refine jq jrc ?_
  refine seq_nil ?_
  refine jcc (fun h338 => ?_) fun h338 => ?_
  · exfalso; omega
  refine code_skip (jtn ?_)
  refine jcs ?_
  refine jcr ?_
  refine jq jrm ?_
  refine jq jrc ?_
  refine seq_nil ?_
  refine jcc (fun h342 => ?_) fun h342 => ?_
  · exfalso; omega
  refine code_skip (jtn ?_)
  refine jcs ?_
  refine jcr ?_
  refine jq jrm ?_
  refine jq jrc ?_
  refine seq_nil ?_
  refine jcc (fun h346 => ?_) fun h346 => ?_
  rotate_left
  · refine code_skip (jtn ?_)
    obtain ⟨q, hq, hq2⟩ : ∃ q, q = (if 256 ≤ m then m / 256 else m) ∧ q < 256 := ⟨_, rfl, by split <;> omega⟩
    refine code_ent (weaken 0 (.c (.int .u64 (q : Nat))) (CEnt.int (by rw [hq]; rw [if_neg (by omega)]))) ?_
    have hl := (len8_bd hq2).2.1
    refine jcr ?_
    refine jq jrm ?_
    refine jq jrm ?_
    refine jq (rd_convI rfl rfl Tryz.underlying165 Tryz.underlying5 (((q : Nat) : Int)) ((by rw [IntKind.wrap_u8]; omega))) ?_
    refine jq (rd_indexS rfl rfl rfl Tryz.underlying9 (show _ = ((q : Nat) : Int) by omega) (by exact Nat.lt_of_lt_of_eq hq2 (by kernel_rfl))) ?_
    refine jq (rd_convI rfl rfl Tryz.underlying5 Tryz.underlying3 (((len8 q : Nat) : Int)) (tab_wrap (T := len8T) (by kernel_rfl) (len8T_get hq2) rfl)) ?_
    refine jq jra ?_
    refine jq jrm ?_
    refine seq_nil ?_
    refine code_ret (jrt (hv := ?_))
    refine CEnt.int ?_
    unfold bl
    (rw [if_neg (by omega)] at hq ⊢; subst hq; omega)
  refine jcr ?_
  refine jq jrm ?_
  refine jq (rd_shr rfl rfl rfl (by (omega)) (((m / 256 : Nat) : Int)) (shr8_64 _ rfl)) ?_
  refine jq jrm ?_
  refine seq_nil ?_
  refine jcg ?_
  refine jq jrm ?_
  refine jq jra ?_
  refine jq jrm ?_
  refine seq_nil ?_
  refine jtn ?_
  obtain ⟨q, hq, hq2⟩ : ∃ q, q = (if 256 ≤ m then m / 256 else m) ∧ q < 256 := ⟨_, rfl, by split <;> omega⟩
  refine code_ent (weaken 0 (.c (.int .u64 (q : Nat))) (CEnt.int (by rw [hq]; rw [if_pos (by omega)]))) ?_
  have hl := (len8_bd hq2).2.1
  refine jcr ?_
  refine jq jrm ?_
  refine jq jrm ?_
  refine jq (rd_convI rfl rfl Tryz.underlying165 Tryz.underlying5 (((q : Nat) : Int)) ((by rw [IntKind.wrap_u8]; omega))) ?_
  refine jq (rd_indexS rfl rfl rfl Tryz.underlying9 (show _ = ((q : Nat) : Int) by omega) (by exact Nat.lt_of_lt_of_eq hq2 (by kernel_rfl))) ?_
  refine jq (rd_convI rfl rfl Tryz.underlying5 Tryz.underlying3 (((len8 q : Nat) : Int)) (tab_wrap (T := len8T) (by kernel_rfl) (len8T_get hq2) rfl)) ?_
  refine jq jra ?_
  refine jq jrm ?_
  refine seq_nil ?_
  refine code_ret (jrt (hv := ?_))
  refine CEnt.int ?_
  unfold bl
  (rw [if_pos (by omega)] at hq ⊢; subst hq; omega)
theorem blen_ac {gs : List Nat} (m : Nat) (hm : m < 65536) : ACp gs Tryz.prog 146 [.c (.int .u64 (m : Nat))] (.c (.int .i64 (bl m : Nat))) := by
  refine ac_of 8 Tryz.func146 rfl rfl rfl (fun al w0 F0 St0 => ?_)
  refine jcr ?_
  refine jq jrm ?_
  refine seq_nil ?_
  refine jcs ?_
  refine jcF ?_
  refine code_skip (jtn ?_)
  refine jcr ?_
  refine jq jrm ?_
  refine jqe (jecP (len64_ac m hm) ?_)
  refine jq jrm ?_
  refine seq_nil ?_
  refine code_ret (jrt (hv := CEnt.refl _))
theorem flags_bad (z : Int) (hz : z < 0 ∨ 32767 < z) : ACp gs Tryz.prog 107 [.c (.int .i64 z)] (.tup 2 (fl [bsC [], .err 1])) := by
  refine ac_of 41 Tryz.func107 rfl rfl rfl (fun al w0 F0 St0 => ?_)
  refine jcr ?_
  refine jq jrm ?_
  refine jq jrm ?_
  refine seq_nil ?_
  refine jcs ?_
  refine jcr ?_
  refine jq jrm ?_
  refine jq jrc ?_
  refine jq jrm ?_
  refine jqsp 10 (fun g76 => ?_) fun g76 => ?_
  · refine jqs ?_
    refine jqs ?_
    refine jq jrpT ?_
    refine seq_nil ?_
    refine jcT ?_
    refine jcs ?_
    refine jcd (.rd 0 (.rd 1 (.rd 2 .done))) ?_
    refine jyq (jrde 0) ?_
    refine jyq jrm ?_
    refine jyq jrm ?_
    refine jyd ?_
    refine jtn ?_
    refine code_ret (jtr (jrt (hv := CEnt.tup2 CEnt.nilB (CEnt.refl _))))
  refine jq jrm ?_
  refine jq jrc ?_
  refine jq jrpF ?_
  refine seq_nil ?_
  refine jcc (fun h76 => ?_) fun h76 => ?_
  rotate_left
  · exfalso; simp at h76; omega
  refine jcs ?_
  refine jcd (.rd 0 (.rd 1 (.rd 2 .done))) ?_
  refine jyq (jrde 0) ?_
  refine jyq jrm ?_
  refine jyq jrm ?_
  refine jyd ?_
  refine jtn ?_
  refine code_ret (jtr (jrt (hv := CEnt.tup2 CEnt.nilB (CEnt.refl _))))
theorem flags_ac {gs : List Nat} (m : Nat) (hm : m < 32768) : ACp gs Tryz.prog 107 [.c (.int .i64 (m : Nat))] (.tup 2 (fl [bsC (flagsL m), .err 0])) := by
  have hb := (bl_is (m := m) (by omega)).2
  refine ac_of 41 Tryz.func107 rfl rfl rfl (fun al w0 F0 St0 => ?_)
  refine jcr ?_
  refine jq jrm ?_
  refine jq jrm ?_
  refine seq_nil ?_
  refine jcs ?_
  refine jcr ?_
  refine jq jrm ?_
  refine jq jrc ?_
  refine jq jrm ?_
  refine jqsp 10 (fun g76 => ?_) fun g76 => ?_
  · exfalso; omega
  refine jq jrm ?_
  refine jq jrc ?_
  refine jq jrpF ?_
  refine seq_nil ?_
  refine jcc (fun h76 => ?_) fun h76 => ?_
  · exfalso; omega
  refine code_skip (jtn ?_)
  refine jcr ?_
  refine jq jrm ?_
  refine jq (jrv .i64 .u16) ?_
  refine jqe (jecP (rev16_ac m (by omega)) ?_)
  refine jq jrm ?_
  refine seq_nil ?_
  refine jcr ?_
  refine jq jrm ?_
  refine jq (jrv .i64 .u64) ?_
  refine jqe (jecP (blen_ac m (by omega)) ?_)
  refine jq jrm ?_
  refine seq_nil ?_
  refine jcr ?_
  refine jq jrm ?_
  refine jq jrr ?_
  refine jq jra ?_
  refine jq jrr ?_
  refine jq (jrv .i64 .u8) ?_
  refine jqe (jebl 1 1 zr5 fun p1 => ?_)
  refine jq jrm ?_
  refine seq_nil ?_
  refine jcs ?_
  refine jcr ?_
  refine jq jrm ?_
  refine seq_nil ?_
  refine code_block ?_
  refine code_ent (blk_ent 0 rfl (Nat.le_refl _) (fun _ => rfl) (fl_by (l2 := [UInt8.ofNat ((8 - bl m % 8) % 8)]) (.cons (CEnt.int (by rw [u8_ofNat (by omega)]; omega)) .nil))) ?_
  refine l_loop (α := Nat × Option Nat) [4, 6, 7, 27, 28, 29, 30, 31, 32, 33, 34, 35, 36, 37, 38, 39] (fun (j, g) => [(4, .c (.int .u16 (turnM m j : Nat))), (6, .os 0 g 0 (outL m j).length 1), (7, .c (.int .i64 ((8 * j : Nat) : Int)))]) (fun (j, g) => [(g, .blk (outL m j).length (byF (outL m j)))]) (fun j => j.1 ≤ (bl m + 7) / 8) (fun j => 3 - j.1) ((0, p1)) ?_ (fun _ => rfl) ?_ ?_ ?_
  · exact Nat.zero_le _
  · exact .cons (CEnt.refl _) (.cons (CEnt.refl _) (.cons (CEnt.refl _) .nil))
  · exact .same .nil
  · rintro ⟨j, g'⟩ (hj : j ≤ (bl m + 7) / 8)
    have ht := turnM_lt (m := m) (by omega) j
    have hol := outL_len m j
    refine jcs ?_
    refine jcr ?_
    refine jq jrm ?_
    refine jq jrm ?_
    refine jq jrc ?_
    refine seq_nil ?_
    refine jcc (fun h83 => ?_) fun h83 => ?_
    rotate_left
    · refine code_exit (jte (jte (jbx (jtn ?_))))
      refine jcr ?_
      refine jq jrm ?_
      refine jq jrm ?_
      refine jq jrm ?_
      refine seq_nil ?_
      refine code_ent (freeze 0 rfl) ?_
      refine code_ent (thawB 2 (outL m j) rfl rfl (by rfl) rfl) ?_
      refine code_ret (jrt (hv := ?_))
      have e : j = (bl m + 7) / 8 := by omega
      refine CEnt.tup2 (CEnt.bs ?_) CEnt.nil
      rw [e]; exact outL_end (by omega)
    refine code_skip (jtn ?_)
    refine jcs ?_
    refine code_block ?_
    refine jcr ?_
    refine jq jrm ?_
    refine jq jrm ?_
    refine jq (rd_shr rfl rfl rfl (by (omega)) (((turnM m j / 256 : Nat) : Int)) (shr8_16 _ rfl)) ?_
    refine jq (jrv .u16 .u8) ?_
    refine jqe (jebl 1 1 zr5 fun p2 => ?_)
    refine jqm (m_appendB (l2 := [UInt8.ofNat (turnM m j / 256)]) rfl rfl rfl (Nat.le_refl _) (fun _ _ => CEnt.refl _) (src_os rfl (.inl rfl) (by decide)) rfl (hh_bytes (.cons (CEnt.int ((by rw [u8_ofNat (by omega)]))) .nil)) Tryz.underlying26 nu26 sz5 zr5 by5 rfl (by (simp; omega)) (leaf_fl rfl rfl) rfl rfl (fun p3 => ?_))
    refine jq jrm ?_
    refine seq_nil ?_
    refine jcg ?_
    refine jq jrm ?_
    refine jq (rd_shl rfl rfl rfl (by (omega)) (((turnM m j % 256 * 256 : Nat) : Int)) (shl8_16 _ rfl)) ?_
    refine jq jrm ?_
    refine seq_nil ?_
    refine jbn (jtn ?_)
    refine jcg ?_
    refine jq jrm ?_
    refine jq jra ?_
    refine jq jrm ?_
    refine seq_nil ?_
    refine jtn ?_
    refine jlend ((j + 1, p3)) ?_ ?_ (h5 := ?_) (h7 := ?_)
    · show j + 1 ≤ (bl m + 7) / 8; omega
    · show 3 - (j + 1) < 3 - j; omega
    · exact .cons (CEnt.refl _) (.cons (CEnt.refl _) (.cons (CEnt.int (by omega)) .nil))
    · exact .same .nil
def rF (M n i : Nat) (j : Nat) : CV := .c (.int .u8 ((gF M n i j : Nat) : Int))
theorem rflags_ac {gs : List Nat} (m : Nat) (hm : m < 32768) : ACp gs Tryz.prog 96 [.c (.int .i64 (m : Nat))] (bsC (flagsL m)) := by
  have hb := (bl_is (m := m) (by omega)).2
  have hfl := flags_len (m := m) (by omega)
  refine ac_of 57 Tryz.func96 rfl rfl rfl (fun al w0 F0 St0 => ?_)
  refine jcr ?_
  refine jq jrm ?_
  refine seq_nil ?_
  refine jcr ?_
  refine jq jrm ?_
  refine seq_nil ?_
  refine jcs ?_
  refine jcr ?_
  refine jq jrm ?_
  refine seq_nil ?_
  refine code_block ?_
  refine l_loop (α := Nat) [3, 4, 7, 8, 9, 10, 11, 12, 13, 14, 15, 16, 17, 18] (fun i => [(3, .c (.int .i64 (bp m i : Nat))), (4, .c (.int .i64 (i : Nat)))]) (fun _ => []) (fun i => i ≤ 15) (fun i => 15 - i) (0) ?_ (fun _ => rfl) ?_ ?_ ?_
  · exact Nat.zero_le _
  · exact .cons (CEnt.refl _) (.cons (CEnt.refl _) .nil)
  · (repeat (first | exact HEnt.nil | refine HEnt.same ?_ | refine HEnt.blk rfl (fun j hj => by rcases j with _|_|_|_|_|_|_|_|j <;> first | exact CEnt.refl _ | exact CEnt.int (by omega) | omega) ?_))
  · rintro i (hi : i ≤ 15)
    have hbp := (bp_is m i).2
    obtain ⟨q, hq⟩ : ∃ q, q = m / 2 ^ i := ⟨_, rfl⟩
    refine jcs ?_
    refine jcr ?_
    refine jq jrm ?_
    refine jq jrc ?_
    refine seq_nil ?_
    refine jcc (fun h70 => ?_) fun h70 => ?_
    · refine code_skip (jtn ?_)
      refine jcs ?_
      refine code_block ?_
      refine jcr ?_
      refine jq jrm ?_
      refine jq jrm ?_
      refine jq (jrv .i64 .u64) ?_
      refine jq (rd_shr rfl rfl rfl (by (omega)) (((q : Nat) : Int)) ((by rw [hq]; exact shr_natI i rfl (by show i ≤ 64; omega)))) ?_
      refine jq jrr ?_
      refine jq jrc ?_
      refine seq_nil ?_
      refine jcc (fun h71 => ?_) fun h71 => ?_
      rotate_left
      · refine code_skip (jbn (jtn ?_))
        refine jcg ?_
        refine jq jrm ?_
        refine jq jra ?_
        refine jq jrm ?_
        refine seq_nil ?_
        refine jtn ?_
        refine jlend (i + 1) ?_ ?_ (h5 := ?_)
        · show i + 1 ≤ 15; omega
        · omega
        · exact .cons (CEnt.int (by show _ = ((if m / 2 ^ i % 2 = 1 then i + 1 else bp m i : Nat) : Int); rw [← hq]; (rw [if_neg (by omega)]))) (.cons (CEnt.int (by omega)) .nil)
      refine jcg ?_
      refine jq jrm ?_
      refine jq jra ?_
      refine jq jrm ?_
      refine seq_nil ?_
      refine jbn (jtn ?_)
      refine jcg ?_
      refine jq jrm ?_
      refine jq jra ?_
      refine jq jrm ?_
      refine seq_nil ?_
      refine jtn ?_
      refine jlend (i + 1) ?_ ?_ (h5 := ?_)
      · show i + 1 ≤ 15; omega
      · omega
      · exact .cons (CEnt.int (by show _ = ((if m / 2 ^ i % 2 = 1 then i + 1 else bp m i : Nat) : Int); rw [← hq]; (rw [if_pos (by omega)]; omega))) (.cons (CEnt.int (by omega)) .nil)
    refine code_exit (jte (jte (jbx (jtn ?_))))
    have e15 : i = 15 := by omega
    refine code_ent (weaken 3 (.c (.int .i64 (bl m : Nat))) (CEnt.int (by rw [e15, bp_end hm]))) ?_
    refine jcr ?_
    refine jq jrm ?_
    refine jq jra ?_
    refine jq jrq ?_
    refine jq jra ?_
    refine jqe (e_make (F := (fun _ => .c (.int .u8 0))) rfl rfl rfl (show _ = (((flagsL m).length : Nat) : Int) by omega) (show _ = (((flagsL m).length : Nat) : Int) by omega) (by (omega)) Tryz.underlying26 sz5 zr5 by5 (by (omega)) (by (omega)) (fun j hj => by show CEnt (.c ((#[Value.int .u8 0])[j % 1]!)) _; rw [Nat.mod_one]; exact CEnt.refl _) rfl rfl (fun p1 => ?_))
    refine jq jrm ?_
    refine seq_nil ?_
    refine jcr ?_
    refine jq jrm ?_
    refine jq jrm ?_
    refine jq jrl ?_
    refine jq jra ?_
    refine jq jra ?_
    refine jq jrm ?_
    refine jq jra ?_
    refine jq (rd_convI rfl rfl Tryz.underlying3 Tryz.underlying5 ((((8 - bl m % 8) % 8 : Nat) : Int)) ((by rw [IntKind.wrap_u8]; omega))) ?_
    refine jq (jri (i := 0)) ?_
    refine jqm (jmstF 1 (rF m (bl m) 0) ?_ ?_)
    · exact (fun j hj => CEnt.of_eq (by refine (updF_one _ 0 (.c (.int .u8 (((8 - bl m % 8) % 8 : Nat) : Int))) j).trans ?_; unfold rF; split <;> rename_i e <;> first | (rw [e]; rfl) | (rw [gF_zero e]; rfl)))
    refine seq_nil ?_
    refine jcs ?_
    refine jcr ?_
    refine jq jrm ?_
    refine seq_nil ?_
    refine code_block ?_
    refine l_loop (α := Nat) [6, 33, 34, 35, 36, 37, 38, 39, 40, 41, 42, 43, 44, 45, 46, 47, 48, 49, 50, 51, 52, 53, 54, 55] (fun i => [(6, .c (.int .i64 (i : Nat)))]) (fun i => [(p1, .blk ((flagsL m).length * 1) (rF m (bl m) i))]) (fun i => i ≤ bl m) (fun i => bl m - i) (0) ?_ (fun _ => rfl) ?_ ?_ ?_
    · exact Nat.zero_le _
    · exact .cons (CEnt.refl _) .nil
    · exact .same .nil
    · rintro i' (hi' : i' ≤ bl m)
      obtain ⟨q', hq'⟩ : ∃ q, q = m / 2 ^ i' := ⟨_, rfl⟩
      refine jcs ?_
      refine jcr ?_
      refine jq jrm ?_
      refine jq jrm ?_
      refine jq jrc ?_
      refine seq_nil ?_
      refine jcc (fun h77 => ?_) fun h77 => ?_
      rotate_left
      · refine code_exit (jte (jte (jbx (jtn ?_))))
        have e : i' = bl m := by omega
        subst e
        refine code_ent (blk_ent 0 (m := (flagsL m).length) (F := byF (flagsL m)) rfl (by omega) (fun _ => by omega) (fun j hj => CEnt.int (by rw [gF_end (by omega) (by omega)]))) ?_
        refine jcr ?_
        refine jq jrm ?_
        refine jq jrm ?_
        refine seq_nil ?_
        refine code_ent (freeze 0 rfl) ?_
        refine code_ent (thawB 2 (flagsL m) rfl rfl (by rfl) rfl) ?_
        refine code_ret (jrt (hv := CEnt.refl _))
      refine code_skip (jtn ?_)
      refine jcs ?_
      refine code_block ?_
      refine jcr ?_
      refine jq jrm ?_
      refine jq jrm ?_
      refine jq (jrv .i64 .u64) ?_
      refine jq (rd_shr rfl rfl rfl (by (omega)) (((q' : Nat) : Int)) ((by rw [hq']; exact shr_natI i' rfl (by show i' ≤ 64; omega)))) ?_
      refine jq jrr ?_
      refine jq jrc ?_
      refine seq_nil ?_
      refine jcc (fun h78 => ?_) fun h78 => ?_
      rotate_left
      · refine code_skip (jbn (jtn ?_))
        refine jcg ?_
        refine jq jrm ?_
        refine jq jra ?_
        refine jq jrm ?_
        refine seq_nil ?_
        refine jtn ?_
        refine jlend (i' + 1) ?_ ?_ (h5 := ?_) (h7 := ?_)
        · show i' + 1 ≤ bl m; omega
        · omega
        · exact .cons (CEnt.int (by omega)) .nil
        · exact .blk rfl (fun j hj => CEnt.int (by rw [gF_off (by omega)])) .nil
      have hm15 : i' < 15 := by have := (bp_is m 15).2; rw [bp_end hm] at this; omega
      have hb1 : m / 2 ^ i' % 2 = 1 := by omega
      have hgo := gF_on' (n := bl m) hb1 hm15 hm
      obtain ⟨P, hP⟩ : ∃ P, P = gF m (bl m) i' (1 + i' / 8) + 2 ^ (7 - i' % 8) := ⟨_, rfl⟩
      rw [← hP] at hgo
      refine jcg ?_
      refine jq jrm ?_
      refine jq jrm ?_
      refine jq jrq ?_
      refine jq jra ?_
      refine jq (jri (i := (1 + i' / 8)) (hz := by omega)) ?_
      refine jqo jrdo ?_
      refine jq jrm ?_
      refine jq jrr ?_
      refine jq (jrv .i64 .u64) ?_
      refine jq (rd_shr rfl rfl rfl (by (omega)) (((2 ^ (7 - i' % 8) : Nat) : Int)) (shr128' (i' % 8) (by omega) (by omega))) ?_
      refine jq (rd_addW rfl rfl rfl (((P : Nat) : Int)) ((by rw [IntKind.wrap_u8, ← Int.natCast_add, ← hP]; omega))) ?_
      refine jq (jri (i := (1 + i' / 8)) (hz := by omega)) ?_
      refine jqm (jmstF 1 (rF m (bl m) (i' + 1)) ?_ ?_)
      · exact (fun j hj => CEnt.of_eq (by refine (updF_one _ (1 + i' / 8) (.c (.int .u8 ((P : Nat) : Int))) j).trans ?_; unfold rF; rw [gF_on hb1 (by omega) (by omega)]; split <;> rename_i e <;> first | (rw [hP, e]) | rfl))
      refine seq_nil ?_
      refine jbn (jtn ?_)
      refine jcg ?_
      refine jq jrm ?_
      refine jq jra ?_
      refine jq jrm ?_
      refine seq_nil ?_
      refine jtn ?_
      refine jlend (i' + 1) ?_ ?_ (h5 := ?_) (h7 := ?_)
      · show i' + 1 ≤ bl m; omega
      · omega
      · exact .cons (CEnt.int (by omega)) .nil
      · exact .same .nil
end Am
end Go.Proofs.YtjckfbpdieijeaaGreatDoor

/- Chapter 7: the laws TextsFlags and TextsMask. -/
namespace Go.Proofs.YtjckfbpdieijeaaGreatDoor
namespace Am
variable {gs : List Nat} [OkG gs]
open Go.RowKit
set_option linter.unusedVariables false
set_option maxRecDepth 100000

end Am
end Go.Proofs.YtjckfbpdieijeaaGreatDoor

/- Chapter 9, plain: labels, subjects, their texts and parts. -/
namespace Go.Proofs.YtjckfbpdieijeaaGreatDoor
namespace Am
open Go.RowKit
set_option linter.unusedVariables false

/-! ### labels -/
def lch (c : UInt8) : Bool := (decide (97 ≤ c.toNat) && decide (c.toNat ≤ 122)) || (decide (48 ≤ c.toNat) && decide (c.toNat ≤ 57)) || decide (c.toNat = 45)
def labM (l : List UInt8) : Bool := decide (l ≠ []) && decide (l.length ≤ 24) && decide (l.getD 0 0 ≠ 45) && decide (l.getD (l.length - 1) 0 ≠ 45) && l.all lch
/-! ### subjects -/
abbrev S3 := Int × List UInt8 × List UInt8
def wordL : List (List UInt8) := [[110, 111, 100, 101], [119, 111, 114, 107, 108, 111, 97, 100], [111, 112, 101, 114, 97, 116, 111, 114], [98, 111, 111, 116], [99, 97]]
def wordM (k : Int) : List UInt8 := if k < 1 then [] else wordL.getD (k - 1).toNat []
def rightS (s : S3) : Bool := decide (1 ≤ s.1) && decide (s.1 ≤ 5) && labM s.2.2 && (if s.1 = 2 then labM s.2.1 else decide (s.2.1 = []))
theorem kinds {k : Int} (h1 : 1 ≤ k) (h5 : k ≤ 5) : k = 1 ∨ k = 2 ∨ k = 3 ∨ k = 4 ∨ k = 5 := by omega
/-- what stands before and behind the first byte c; is there one -/
def cutM (c : UInt8) : List UInt8 → List UInt8 × List UInt8 × Bool
  | [] => ([], [], false)
  | x :: l => if x = c then ([], l, true) else (x :: (cutM c l).1, (cutM c l).2.1, (cutM c l).2.2)
def textS (s : S3) : List UInt8 := wordM s.1 ++ 58 :: (if s.2.1 = [] then s.2.2 else s.2.1 ++ 47 :: s.2.2)
/-- the index of a word, from 1 on; 0: it is none -/
def idxW (w : List UInt8) : Int := if w ∈ wordL then (wordL.idxOf w : Nat) + 1 else 0
/-- what a text is taken for -/
def guessT (t : List UInt8) : S3 :=
  if (cutM 47 (cutM 58 t).2.1).2.2 = true then (idxW (cutM 58 t).1, (cutM 47 (cutM 58 t).2.1).1, (cutM 47 (cutM 58 t).2.1).2.1) else (idxW (cutM 58 t).1, [], (cutM 58 t).2.1)
def zeroS : S3 := (0, [], [])
/-- a text's subject; the error's number -/
def parseT (t : List UInt8) : S3 × Nat := if rightS (guessT t) = true ∧ textS (guessT t) = t then (guessT t, 0) else (zeroS, 9)
/-- the reference's: a text as a subject of a kind -/
def asKind (t : List UInt8) (k : Int) : S3 :=
  if k = 2 ∧ (cutM 47 (t.drop ((wordM k).length + 1))).2.2 = true then (k, (cutM 47 (t.drop ((wordM k).length + 1))).1, (cutM 47 (t.drop ((wordM k).length + 1))).2.1) else (k, [], t.drop ((wordM k).length + 1))
def isKind (t : List UInt8) (k : Int) : Prop := (wordM k).length + 1 ≤ t.length ∧ t.take ((wordM k).length + 1) = wordM k ++ [58] ∧ rightS (asKind t k) = true ∧ textS (asKind t k) = t
/-! ### parts -/
def oidB : List UInt8 := [49, 46, 51, 46, 57, 57, 57, 57, 46, 49, 46]
def oidK : List UInt8 := oidB ++ [49]
def oidS : List UInt8 := oidB ++ [50]
def oidN : List UInt8 := oidB ++ [51]
abbrev P2 := List UInt8 × List UInt8
def partsS (s : S3) : List P2 := if s.2.1 = [] then [(oidK, wordM s.1), (oidN, s.2.2)] else [(oidK, wordM s.1), (oidS, s.2.1), (oidN, s.2.2)]
/-- what parts make of a subject, part by part -/
def stepP (s : S3) (p : P2) : S3 := if p.1 = oidK then (idxW p.2, s.2.1, s.2.2) else if p.1 = oidS then (s.1, p.2, s.2.2) else if p.1 = oidN then (s.1, s.2.1, p.2) else s
def guessP (l : List P2) : S3 := l.foldl stepP zeroS
/-- the subject of parts; the error's number -/
def ofP (l : List P2) : S3 × Nat := if rightS (guessP l) = true ∧ partsS (guessP l) = l then (guessP l, 0) else (zeroS, 9)
/-- the reference's: parts as those of a subject of a kind -/
def asKindP (l : List P2) (k : Int) : S3 := (k, (if k = 2 ∧ 1 < l.length then (l.getD 1 ([], [])).2 else []), (if 0 < l.length then (l.getD (l.length - 1) ([], [])).2 else []))
def isKindP (l : List P2) (k : Int) : Prop := rightS (asKindP l k) = true ∧ partsS (asKindP l k) = l
end Am
end Go.Proofs.YtjckfbpdieijeaaGreatDoor

/- Chapter 7: labels. -/
namespace Go.Proofs.YtjckfbpdieijeaaGreatDoor
set_option linter.unusedVariables false
namespace Am
open Go.RowKit
set_option maxRecDepth 100000

/-! ### labels -/
def letL : List UInt8 := [97, 98, 99, 100, 101, 102, 103, 104, 105, 106, 107, 108, 109, 110, 111, 112, 113, 114, 115, 116, 117, 118, 119, 120, 121, 122, 48, 49, 50, 51, 52, 53, 54, 55, 56, 57]
end Am
end Go.Proofs.YtjckfbpdieijeaaGreatDoor

/- Chapter 7: labels; texts as bodies. -/
namespace Go.Proofs.YtjckfbpdieijeaaGreatDoor
set_option linter.unusedVariables false
namespace Am
variable {gs : List Nat} [OkG gs]
open Go.RowKit
set_option maxRecDepth 100000

/-! ### texts as bodies -/
theorem asked_ac [OkT gs] (l : List UInt8) (most : Int) (hl : l.length ≤ 1000000000) : ACp gs Tryz.prog 140 [strC l, .c (.int .i64 most)] (.err (askedM l most)) := by
  refine ac_of 20 Tryz.func140 rfl rfl rfl (fun al w0 F0 St0 => ?_)
  refine jcr ?_
  refine jq jrm ?_
  refine seq_nil ?_
  refine jcs ?_
  refine code_block ?_
  refine jcr ?_
  refine jq jrm ?_
  refine jq jrcs ?_
  refine jq jrm ?_
  refine seq_nil ?_
  refine jcc (fun h47 => ?_) fun h47 => ?_
  · refine jcr ?_
    refine jq (jrde 1) ?_
    refine jq jrm ?_
    refine seq_nil ?_
    refine code_ret (jbr (jtr (jrt (hv := CEnt.errN (by unfold askedM; rw [if_pos (by simpa using h47)])))))
  refine jcr ?_
  refine jq jrm ?_
  refine jq jrls ?_
  refine jq jrm ?_
  refine jq jrc ?_
  refine jq jrm ?_
  refine seq_nil ?_
  refine jcc (fun h49 => ?_) fun h49 => ?_
  · refine jcr ?_
    refine jq (jrde 2) ?_
    refine jq jrm ?_
    refine seq_nil ?_
    refine code_ret (jbr (jtr (jrt (hv := CEnt.errN (by unfold askedM; rw [if_neg (by simpa using h47), if_pos h49])))))
  refine jcr ?_
  refine jq jrm ?_
  refine jqe (jecP (plain07_ac l hl) ?_)
  refine jq jrn ?_
  refine jq jrm ?_
  refine seq_nil ?_
  refine jcc (fun h51 => ?_) fun h51 => ?_
  · refine jcr ?_
    refine jq (jrde 7) ?_
    refine jq jrm ?_
    refine seq_nil ?_
    refine code_ret (jbr (jtr (jrt (hv := CEnt.errN (by unfold askedM; rw [if_neg (by simpa using h47), if_neg h49, if_pos (by simpa using h51)])))))
  refine code_skip (jbn (jtn ?_))
  refine jcr ?_
  refine jq jrm ?_
  refine seq_nil ?_
  refine code_ret (jrt (hv := CEnt.nilE (by unfold askedM; rw [if_neg (by simpa using h47), if_neg h49, if_neg (by simpa using h51)])))
theorem asked_bd (l : List UInt8) (most : Int) : askedM l most ≤ 8 := by
  unfold askedM
  repeat' split
  all_goals omega
theorem xput_ac [OkT gs] (l : List UInt8) (most : Int) (hl : l.length ≤ 1000000000) : ACp gs Tryz.prog 103 [strC l, .c (.int .i64 most)] (.tup 2 (fl [bsC (if askedM l most = 0 then l else []), .err (askedM l most)])) := by
  refine ac_of 15 Tryz.func103 rfl rfl rfl (fun al w0 F0 St0 => ?_)
  refine jcr ?_
  refine jq jrm ?_
  refine jq jrm ?_
  refine seq_nil ?_
  refine jcs ?_
  refine jcr ?_
  refine jq jrm ?_
  refine jq jrm ?_
  refine jqe (jecP (asked_ac l most hl) ?_)
  refine jq jrm ?_
  refine seq_nil ?_
  refine jcr ?_
  refine jq jrm ?_
  refine jq jre ?_
  refine seq_nil ?_
  refine jcc (fun h59 => ?_) fun h59 => ?_
  · refine jcr ?_
    refine jq jrm ?_
    refine jq jrm ?_
    refine jq jrm ?_
    refine seq_nil ?_
    refine code_ret (jtr (jrt (hv := CEnt.tup2 (CEnt.nilS' (by rw [if_neg h59]; rfl)) (CEnt.refl _))))
  refine code_skip (jtn ?_)
  refine jcr ?_
  refine jq jrm ?_
  refine jqe (jecv ?_)
  refine jq jrm ?_
  refine jq jrm ?_
  refine seq_nil ?_
  refine code_ret (jrt (hv := ?_))
  have h : askedM l most = 0 := by omega
  exact CEnt.tup2 (CEnt.bs (by rw [if_pos h])) (CEnt.nilE h)
theorem rasked_ac {gs : List Nat} (l : List UInt8) (most : Int) (hl : l.length ≤ 1000000000) : ACp gs Tryz.prog 91 [strC l, .c (.int .i64 most)] (.c (.int .i64 (askedM l most : Nat))) := by
  refine ac_of 15 Tryz.func91 rfl rfl rfl (fun al w0 F0 St0 => ?_)
  refine jcr ?_
  refine jq jrm ?_
  refine seq_nil ?_
  refine jcs ?_
  refine jcr ?_
  refine jq jrm ?_
  refine jq jrls ?_
  refine jq jrc ?_
  refine seq_nil ?_
  refine jcc (fun h55 => ?_) fun h55 => ?_
  · refine jcr ?_
    refine jq jrm ?_
    refine seq_nil ?_
    refine code_ret (jtr (jrt (hv := CEnt.int (by unfold askedM; rw [if_pos (by omega)]; rfl))))
  refine code_skip (jtn ?_)
  refine jcs ?_
  refine jcr ?_
  refine jq jrm ?_
  refine jq jrls ?_
  refine jq jrm ?_
  refine jq jrc ?_
  refine seq_nil ?_
  refine jcc (fun h58 => ?_) fun h58 => ?_
  · refine jcr ?_
    refine jq jrm ?_
    refine seq_nil ?_
    refine code_ret (jtr (jrt (hv := CEnt.int (by unfold askedM; rw [if_neg (by omega), if_pos h58]; rfl))))
  refine code_skip (jtn ?_)
  refine jcs ?_
  refine jcr ?_
  refine jq jrm ?_
  refine jqe (jecP (rplain_ac l hl) ?_)
  refine jq jrn ?_
  refine seq_nil ?_
  refine jcc (fun h61 => ?_) fun h61 => ?_
  · refine jcr ?_
    refine jq jrm ?_
    refine seq_nil ?_
    refine code_ret (jtr (jrt (hv := CEnt.int (by unfold askedM; rw [if_neg (by omega), if_neg h58, if_pos (by simpa using h61)]; rfl))))
  refine code_skip (jtn ?_)
  refine jcr ?_
  refine jq jrm ?_
  refine seq_nil ?_
  refine code_ret (jrt (hv := CEnt.int (by unfold askedM; rw [if_neg (by omega), if_neg h58, if_neg (by simpa using h61)]; rfl)))
end Am
end Go.Proofs.YtjckfbpdieijeaaGreatDoor

/- Chapter 8: the writer: Done; values. -/
namespace Go.Proofs.YtjckfbpdieijeaaGreatDoor
set_option linter.unusedVariables false
namespace Am
variable {gs : List Nat} [OkG gs]
open Go.RowKit Cal
set_option maxRecDepth 100000

theorem doneW_ac (n : Nat) (s : W8) (hs : OkW s) : AC gs Tryz.prog 11 [wrO n s] [.op 0 (some n) 0] (fun r H' => r = .tup 2 (fl [bsC (doneB s), .err (doneK s)]) ∧ H' = [wrO n s]) := by
  have hsd := hs.d
  have bad : ∀ {e}, doneK s = e → e ≠ 0 → doneB s = [] := fun h h0 => by unfold doneB; rw [h, if_neg h0]
  refine ac_of 35 Tryz.func11 rfl rfl rfl (fun al w0 F0 St0 => ?_)
  refine jcr ?_
  refine jq jrm ?_
  refine jq jrm ?_
  refine seq_nil ?_
  refine jcs ?_
  refine code_block ?_
  refine code_openW 0 rfl fun go gd zs hzs => ?_
  refine jcr ?_
  refine jq jrm ?_
  refine jq jrnc ?_
  refine jq (jrfa 2 1 false) ?_
  refine jqo jrdo ?_
  refine jq jre ?_
  refine jq jrm ?_
  refine seq_nil ?_
  refine jcc (fun h140 => ?_) fun h140 => ?_
  · refine jcs ?_
    refine jcd (.rd 0 (.rd 1 (.rd 2 (.rd 3 (.rd 4 (.rd 5 .done)))))) ?_
    refine jyq jrm ?_
    refine jyq jrnc ?_
    refine jyq (jrfa 2 1 false) ?_
    refine jyo jrdo ?_
    refine jyq jrm ?_
    refine jyq jrm ?_
    refine jyd ?_
    refine jtn ?_
    refine code_ret (jbr (jtr ?_))
    have e : doneK s = s.k := by unfold doneK; rw [if_pos (by omega)]
    exact end_packV (gd := fun z : WZ8 s.fr => z.1.1) (E := wrE s) (.inl rfl) ⟨(n, go, gd, zs), hzs⟩ [0, 1, 2, 3] (by decide) rfl (res_2 rfl javt javt) (CEnt.tup2 (by rw [bad e (by omega)]; exact CEnt.nilB) (CEnt.err e.symm))
  refine jcr ?_
  refine jq jrm ?_
  refine jq jrnc ?_
  refine jq (jrfa 0 1 false) ?_
  refine jqo jrdo ?_
  refine jq jrl ?_
  refine jq jrc ?_
  refine jq jrm ?_
  refine seq_nil ?_
  refine jcc (fun h142 => ?_) fun h142 => ?_
  · refine jcs ?_
    refine jcd (.rd 0 (.rd 1 (.rd 2 .done))) ?_
    refine jyq (jrde 23) ?_
    refine jyq jrm ?_
    refine jyq jrm ?_
    refine jyd ?_
    refine jtn ?_
    refine code_ret (jbr (jtr ?_))
    have e : doneK s = 24 := by unfold doneK; rw [if_neg (by omega), if_pos (by intro h; rw [h] at h142; simp at h142)]
    exact end_packV (gd := fun z : WZ8 s.fr => z.1.1) (E := wrE s) (.inl rfl) ⟨(n, go, gd, zs), hzs⟩ [0, 1, 2, 3] (by decide) rfl (res_2 rfl javt javt) (CEnt.tup2 (by rw [bad e (by omega)]; exact CEnt.nilB) (CEnt.err e.symm))
  refine jcr ?_
  refine jq jrm ?_
  refine jq jrnc ?_
  refine jq (jrfa 1 1 false) ?_
  refine jqo jrdo ?_
  refine jq jrl ?_
  refine jq jrc ?_
  refine jq jrm ?_
  refine seq_nil ?_
  refine jcc (fun h144 => ?_) fun h144 => ?_
  · refine jcs ?_
    refine jcd (.rd 0 (.rd 1 (.rd 2 .done))) ?_
    refine jyq (jrde 2) ?_
    refine jyq jrm ?_
    refine jyq jrm ?_
    refine jyd ?_
    refine jtn ?_
    refine code_ret (jbr (jtr ?_))
    have hf0 : s.fr = [] := List.eq_nil_of_length_eq_zero (by omega)
    have e : doneK s = 3 := by unfold doneK; rw [if_neg (by omega), if_neg (by simp [hf0]), if_pos (by omega)]
    exact end_packV (gd := fun z : WZ8 s.fr => z.1.1) (E := wrE s) (.inl rfl) ⟨(n, go, gd, zs), hzs⟩ [0, 1, 2, 3] (by decide) rfl (res_2 rfl javt javt) (CEnt.tup2 (by rw [bad e (by omega)]; exact CEnt.nilB) (CEnt.err e.symm))
  refine code_skip (jbn (jtn ?_))
  refine jcr ?_
  refine jq jrm ?_
  refine jq jrnc ?_
  refine jq (jrfa 1 1 false) ?_
  refine jqo jrdo ?_
  refine jqm (jmcH 2 (cloneO_ac s.d gd (by omega)) ?_)
  rintro _ _ ⟨rfl, rfl⟩
  refine ⟨_, _, rfl, CEnt.refl _, ?_⟩
  refine jq jrm ?_
  refine jq jrm ?_
  refine seq_nil ?_
  refine code_ret ?_
  have hf0 : s.fr = [] := List.eq_nil_of_length_eq_zero (by omega)
  have e : doneK s = 0 := by unfold doneK; rw [if_neg (by omega), if_neg (by simp [hf0]), if_neg (by omega)]
  exact end_packV (gd := fun z : WZ8 s.fr => z.1.1) (E := wrE s) (.inl rfl) ⟨(n, go, gd, zs), hzs⟩ [0, 1, 2, 3] (by decide) rfl (res_2 rfl javt javt) (CEnt.tup2 (CEnt.bs (by unfold doneB; rw [if_pos e])) (CEnt.nilE e))
theorem intW_ac (n : Nat) (s : W8) (z : Int) (hz : -9223372036854775808 ≤ z ∧ z ≤ 9223372036854775807) (hs : OkW s) : AC gs Tryz.prog 45 [wrO n s] [.op 0 (some n) 0, .c (.int .i64 z)] (fun r H' => r = .c (.tuple #[]) ∧ H' = [wrO n (putW 2 (putN z) 0 s)]) := by
  have hl := (putN_len z hz.1 hz.2).2
  refine ac_of 8 Tryz.func45 rfl rfl rfl (fun al w0 F0 St0 => ?_)
  refine jcg ?_
  refine jq jrm ?_
  refine jq jrm ?_
  refine jqe (jecP (wput_ac z hz.1 hz.2) ?_)
  refine jqm (jmcH 0 (putW_ac n s 2 (putN z) 0 hs (by omega)) ?_)
  rintro _ _ ⟨rfl, rfl⟩
  refine ⟨_, _, rfl, CEnt.refl _, ?_⟩
  refine seq_nil ?_
  exact end_own (.inr rfl) _ [_] [0] (by decide) rfl (res_0 rfl) ⟨rfl, rfl⟩
theorem enumW_ac (n : Nat) (s : W8) (z : Int) (hz : -9223372036854775808 ≤ z ∧ z ≤ 9223372036854775807) (hs : OkW s) : AC gs Tryz.prog 55 [wrO n s] [.op 0 (some n) 0, .c (.int .i64 z)] (fun r H' => r = .c (.tuple #[]) ∧ H' = [wrO n (putW 10 (putN z) 0 s)]) := by
  have hl := (putN_len z hz.1 hz.2).2
  refine ac_of 8 Tryz.func55 rfl rfl rfl (fun al w0 F0 St0 => ?_)
  refine jcg ?_
  refine jq jrm ?_
  refine jq jrm ?_
  refine jqe (jecP (wput_ac z hz.1 hz.2) ?_)
  refine jqm (jmcH 0 (putW_ac n s 10 (putN z) 0 hs (by omega)) ?_)
  rintro _ _ ⟨rfl, rfl⟩
  refine ⟨_, _, rfl, CEnt.refl _, ?_⟩
  refine seq_nil ?_
  exact end_own (.inr rfl) _ [_] [0] (by decide) rfl (res_0 rfl) ⟨rfl, rfl⟩
theorem boolW_ac (n : Nat) (s : W8) (z : Bool) (hs : OkW s) : AC gs Tryz.prog 56 [wrO n s] [.op 0 (some n) 0, .c (.bool z)] (fun r H' => r = .c (.tuple #[]) ∧ H' = [wrO n (putW 1 [if z then 255 else 0] 0 s)]) := by
  refine ac_of 8 Tryz.func56 rfl rfl rfl (fun al w0 F0 St0 => ?_)
  refine jcg ?_
  refine jq jrm ?_
  refine jq jrm ?_
  refine jqe (jecP (truth_ac z) ?_)
  refine jqm (jmcH 0 (putW_ac n s 1 [if z then 255 else 0] 0 hs (by simp)) ?_)
  rintro _ _ ⟨rfl, rfl⟩
  refine ⟨_, _, rfl, CEnt.refl _, ?_⟩
  refine seq_nil ?_
  exact end_own (.inr rfl) _ [_] [0] (by decide) rfl (res_0 rfl) ⟨rfl, rfl⟩
theorem octetsW_ac (n : Nat) (s : W8) (b : List UInt8) (hb : b.length ≤ 1000000) (hs : OkW s) : AC gs Tryz.prog 57 [wrO n s] [.op 0 (some n) 0, bsC b] (fun r H' => r = .c (.tuple #[]) ∧ H' = [wrO n (putW 4 b 0 s)]) := by
  refine ac_of 7 Tryz.func57 rfl rfl rfl (fun al w0 F0 St0 => ?_)
  refine jcg ?_
  refine jq jrm ?_
  refine jq jrm ?_
  refine jqm (jmcH 0 (putW_ac n s 4 b 0 hs hb) ?_)
  rintro _ _ ⟨rfl, rfl⟩
  refine ⟨_, _, rfl, CEnt.refl _, ?_⟩
  refine seq_nil ?_
  exact end_own (.inr rfl) _ [_] [0] (by decide) rfl (res_0 rfl) ⟨rfl, rfl⟩
theorem textW_ac [OkT gs] (n : Nat) (s : W8) (t : List UInt8) (most : Int) (ht : t.length ≤ 1000000) (hs : OkW s) : AC gs Tryz.prog 58 [wrO n s] [.op 0 (some n) 0, strC t, .c (.int .i64 most)] (fun r H' => r = .c (.tuple #[]) ∧ H' = [wrO n (putW 12 (if askedM t most = 0 then t else []) (askedM t most) s)]) := by
  have hl : (if askedM t most = 0 then t else []).length ≤ 1000000 := by split <;> first | omega | simp
  refine ac_of 18 Tryz.func58 rfl rfl rfl (fun al w0 F0 St0 => ?_)
  refine jcr ?_
  refine jq jrm ?_
  refine jq jrm ?_
  refine jqe (jecP (xput_ac t most (by omega)) ?_)
  refine jq jrm ?_
  refine jq jrx ?_
  refine jq jrx ?_
  refine jq jrm ?_
  refine jq jrm ?_
  refine seq_nil ?_
  refine jcg ?_
  refine jq jrm ?_
  refine jq jrm ?_
  refine jq jrm ?_
  refine jqm (jmcH 0 (putW_ac n s 12 (if askedM t most = 0 then t else []) (askedM t most) hs hl) ?_)
  rintro _ _ ⟨rfl, rfl⟩
  refine ⟨_, _, rfl, CEnt.refl _, ?_⟩
  refine seq_nil ?_
  exact end_own (.inr rfl) _ [_] [0] (by decide) rfl (res_0 rfl) ⟨rfl, rfl⟩
theorem momentW_ac (n : Nat) (s : W8) (z : Int) (hs : OkW s) : AC gs Tryz.prog 60 [wrO n s] [.op 0 (some n) 0, .c (.int .i64 z)] (fun r H' => r = .c (.tuple #[]) ∧ H' = [wrO n (putW 24 (if inT z then bodyL (ofM z) else []) (ofE z) s)]) := by
  have hbl : (if inT z then bodyL (ofM z) else []).length ≤ 1000000 := by
    split
    · exact Nat.le_trans (Nat.le_of_eq (show (bodyL (ofM z)).length = 15 from rfl)) (by decide)
    · simp
  refine ac_of 15 Tryz.func60 rfl rfl rfl (fun al w0 F0 St0 => ?_)
  refine jcr ?_
  refine jq jrm ?_
  refine jqe (jecP (put_ac z) ?_)
  refine jq jrm ?_
  refine jq jrx ?_
  refine jq jrx ?_
  refine jq jrm ?_
  refine jq jrm ?_
  refine seq_nil ?_
  refine jcg ?_
  refine jq jrm ?_
  refine jq jrm ?_
  refine jq jrm ?_
  refine jqm (jmcH 0 (putW_ac n s 24 (if inT z then bodyL (ofM z) else []) (ofE z) hs hbl) ?_)
  rintro _ _ ⟨rfl, rfl⟩
  refine ⟨_, _, rfl, CEnt.refl _, ?_⟩
  refine seq_nil ?_
  exact end_own (.inr rfl) _ [_] [0] (by decide) rfl (res_0 rfl) ⟨rfl, rfl⟩
theorem oidW_ac (n : Nat) (s : W8) (t : List UInt8) (ht : t.length ≤ 1000000) (hs : OkW s) : AC gs Tryz.prog 59 [wrO n s] [.op 0 (some n) 0, strC t] (fun r H' => r = .c (.tuple #[]) ∧ H' = [wrO n (putW 6 (putM t) (parseM t).2 s)]) := by
  have hl : (putM t).length ≤ 1000000 := Nat.le_trans (put_len t) (by decide)
  refine ac_of 15 Tryz.func59 rfl rfl rfl (fun al w0 F0 St0 => ?_)
  refine jcr ?_
  refine jq jrm ?_
  refine jqe (jecP (oput_ac t (by omega)) ?_)
  refine jq jrm ?_
  refine jq jrx ?_
  refine jq jrx ?_
  refine jq jrm ?_
  refine jq jrm ?_
  refine seq_nil ?_
  refine jcg ?_
  refine jq jrm ?_
  refine jq jrm ?_
  refine jq jrm ?_
  refine jqm (jmcH 0 (putW_ac n s 6 (putM t) (parseM t).2 hs hl) ?_)
  rintro _ _ ⟨rfl, rfl⟩
  refine ⟨_, _, rfl, CEnt.refl _, ?_⟩
  refine seq_nil ?_
  exact end_own (.inr rfl) _ [_] [0] (by decide) rfl (res_0 rfl) ⟨rfl, rfl⟩
theorem flagsW_ac (n : Nat) (s : W8) (z : Int) (hs : OkW s) : AC gs Tryz.prog 62 [wrO n s] [.op 0 (some n) 0, .c (.int .i64 z)] (fun r H' => r = .c (.tuple #[]) ∧ H' = [wrO n (putW 3 (bitsL z) (bitsE z) s)]) := by
  have hf : ACp gs Tryz.prog 107 [.c (.int .i64 z)] (.tup 2 (fl [bsC (bitsL z), .err (bitsE z)])) := by
    unfold bitsL bitsE
    by_cases h : z < 0 ∨ 32767 < z
    · rw [if_pos h, if_pos h]; exact flags_bad z h
    · rw [if_neg h, if_neg h]
      have := flags_ac (gs := gs) z.toNat (by omega)
      rwa [Int.toNat_of_nonneg (by omega)] at this
  have hl : (bitsL z).length ≤ 1000000 := by
    unfold bitsL
    split
    · simp
    · rw [flags_len (by omega)]
      have := (bl_is (m := z.toNat) (by omega)).2
      omega
  refine ac_of 15 Tryz.func62 rfl rfl rfl (fun al w0 F0 St0 => ?_)
  refine jcr ?_
  refine jq jrm ?_
  refine jqe (jecP hf ?_)
  refine jq jrm ?_
  refine jq jrx ?_
  refine jq jrx ?_
  refine jq jrm ?_
  refine jq jrm ?_
  refine seq_nil ?_
  refine jcg ?_
  refine jq jrm ?_
  refine jq jrm ?_
  refine jq jrm ?_
  refine jqm (jmcH 0 (putW_ac n s 3 (bitsL z) (bitsE z) hs hl) ?_)
  rintro _ _ ⟨rfl, rfl⟩
  refine ⟨_, _, rfl, CEnt.refl _, ?_⟩
  refine seq_nil ?_
  exact end_own (.inr rfl) _ [_] [0] (by decide) rfl (res_0 rfl) ⟨rfl, rfl⟩
theorem rawW_ac (n : Nat) (s : W8) (b : List UInt8) (hb : b.length ≤ 1000000) (hs : OkW s) : AC gs Tryz.prog 61 [wrO n s] [.op 0 (some n) 0, bsC b] (fun r H' => r = .c (.tuple #[]) ∧ H' = [wrO n (rawW b s)]) := by
  refine ac_of 16 Tryz.func61 rfl rfl rfl (fun al w0 F0 St0 => ?_)
  refine jcr ?_
  refine jq jrm ?_
  refine jq jrm ?_
  refine jqe (jecP (check_ac b (by omega)) ?_)
  refine jqm (jmcH 0 (failW_ac n s (depthM b).2) ?_)
  rintro _ _ ⟨rfl, rfl⟩
  refine ⟨_, _, rfl, CEnt.refl _, ?_⟩
  refine seq_nil ?_
  refine code_openW 0 rfl fun go gd zs hzs => ?_
  refine jcr ?_
  refine jq jrm ?_
  refine jq jrnc ?_
  refine jq (jrfa 2 1 false) ?_
  refine jqo jrdo ?_
  refine jq jre ?_
  refine seq_nil ?_
  refine jcc (fun h132 => ?_) fun h132 => ?_
  rotate_left
  · refine code_skip ?_
    have hP : rawW b s = failW (depthM b).2 s := by unfold rawW; rw [if_neg (by omega)]
    rw [hP]
    exact end_pack (gd := fun z : WZ8 (failW (depthM b).2 s).fr => z.1.1) (E := wrE (failW (depthM b).2 s)) (.inr rfl) _ ⟨(n, go, gd, zs), hzs⟩ [0, 1, 2, 3] (by decide) rfl (res_0 rfl) ⟨rfl, rfl⟩
  have hk : (failW (depthM b).2 s).k = 0 := by omega
  refine code_ent (closeW n (failW (depthM b).2 s) zs 0 1 2 3 hzs rfl rfl rfl rfl (by decide) (CEnt.osI rfl) (CEnt.osI rfl) (CEnt.refl _) (Nat.le_refl _) (fun _ _ => CEnt.refl _) (Nat.le_refl _) (fun _ _ => CEnt.refl _)) ?_
  dsimp only [List.set_cons_zero, List.set_cons_succ, List.cons_append, List.nil_append, List.length_cons, List.length_nil, Nat.zero_add, Nat.reduceAdd]
  have hF : failW (depthM b).2 s = s := by
    obtain ⟨fr, d, k⟩ := s
    unfold failW at hk ⊢
    split
    · rename_i h
      rw [if_pos h] at hk
      have h : k = 0 := h
      have hk0 : (depthM b).2 = 0 := hk
      rw [h, hk0]
    · rfl
  rw [hF]
  refine jcg ?_
  refine jq jrm ?_
  refine jq jrm ?_
  refine jqm (jmcH 0 (addW_ac n s b hs (by omega)) ?_)
  rintro _ _ ⟨rfl, rfl⟩
  refine ⟨_, _, rfl, CEnt.refl _, ?_⟩
  refine seq_nil ?_
  have hP : rawW b s = addW b s := by unfold rawW; rw [if_pos hk]
  rw [hP]
  exact end_own (.inr rfl) _ [_] [0] (by decide) rfl (res_0 rfl) ⟨rfl, rfl⟩
end Am
end Go.Proofs.YtjckfbpdieijeaaGreatDoor

/- Chapter 8: the laws' own functions: alive, put. -/
namespace Go.Proofs.YtjckfbpdieijeaaGreatDoor
set_option linter.unusedVariables false
namespace Am
variable {gs : List Nat} [OkG gs]
open Go.RowKit Cal
set_option maxRecDepth 100000

def w0W : W8 := ⟨[], [], 0⟩
theorem take_set_out {α : Type} (l : List α) (n i : Nat) (x : α) (h : n ≤ i) : (l.set i x).take n = l.take n := by
  rw [List.take_set, List.set_eq_of_length_le]
  rw [List.length_take]; omega
/-- a new writer -/
theorem newW {G : Gh} {env : List (Nat × CV)} {b0 : Nat → CV} {H : List (Option Nat × Res)} (n i : Nat) {f : Nat → CV} (hi : H[i]? = some (some n, .blk 3 f)) (h0 : CEnt (f 0) (.c (.slice none 0 0))) (h1 : CEnt (f 1) (.c (.slice none 0 0))) (h2 : CEnt (f 2) (.err 0)) : EntS G ⟨env, b0, H⟩ ⟨env, b0, H.set i (wrO n w0W)⟩ := by
  have hil := (List.getElem?_eq_some_iff.1 hi).1
  have os0 : ∀ {j k : Nat}, CEnt (.c (.slice none 0 0)) (.os j none 0 0 k) := fun al St w v h => ⟨rfl, h⟩
  intro St a w hr
  obtain ⟨S1, s1, r1⟩ := ent_none (G := G) (s := ⟨env, b0, H⟩) (rowF 2 frF frD []) St a w hr
  obtain ⟨S2, s2, r2⟩ := ent_none (G := G) (s := ⟨env, b0, H ++ [(none, .blk 0 (rowF 2 frF frD []))]⟩) (byF []) S1 a w r1
  obtain ⟨S3, s3, r3⟩ := bag_new (G := G) (env := env) (b0 := b0) (H := H ++ [(none, .blk 0 (rowF 2 frF frD []))] ++ [(none, .blk 0 (byF []))]) S2 a w r2
  obtain ⟨S4, s4, r4⟩ := closeW (G := G) (env := env) (b0 := b0) (H := H ++ [(none, .blk 0 (rowF 2 frF frD []))] ++ [(none, .blk 0 (byF []))] ++ [bagE []]) n w0W [] i H.length (H.length + 1) (H.length + 2) rfl (go := none) (gd := none) (No := 0) (Nd := 0) (f := f) (Fo := rowF 2 frF frD []) (Fd := byF [])
    (by rw [List.append_assoc, List.append_assoc, List.getElem?_append_left hil]; exact hi) (by simp) (by simp [List.getElem?_append]) (by simp [List.getElem?_append]) (by simp; omega) (h0.trans os0) (h1.trans os0) h2 (Nat.le_refl _) (fun a h => absurd h (Nat.not_lt_zero a)) (Nat.le_refl _) (fun a h => absurd h (Nat.not_lt_zero a)) S3 a w r3
  obtain ⟨S5, s5, r5⟩ := pick_ent (G := G) (H' := H.set i (wrO n w0W)) (List.range H.length) (range_nodup _) (by
    rw [pickL_range _ _ (by simp)]
    simp only [List.append_assoc]
    rw [take_set_out _ _ _ _ (by omega), take_set_out _ _ _ _ (by omega), take_set_out _ _ _ _ (by omega), List.take_set, List.take_left]) S4 a w r4
  exact ⟨S5, fun b hb => s5 b (s4 b (s3 b (s2 b (s1 b hb)))), r5⟩
theorem ok0 : OkW w0W := ⟨by decide, fun _ h => (by cases h), by decide⟩
def w1W : W8 := ⟨[(48, [])], [], 0⟩
def w2W : W8 := ⟨[(48, [[2, 1, 5]])], [], 0⟩
def w3W : W8 := ⟨[], [48, 3, 2, 1, 5], 0⟩
theorem e1W : openW 48 w0W = w1W := rfl
theorem e2W : putW 2 (putN 5) 0 w1W = w2W := rfl
theorem e3W : closeV w2W = w3W := rfl
theorem ok1 : OkW w1W := ⟨by decide, fun x h => (by obtain rfl := List.mem_singleton.1 h; decide), by decide⟩
theorem ok2 : OkW w2W := ⟨by decide, fun x h => (by obtain rfl := List.mem_singleton.1 h; decide), by decide⟩
theorem ok3 : OkW w3W := ⟨by decide, fun _ h => (by cases h), by decide⟩
theorem alive08_ac : ACp gs Tryz.prog 8 [] (.c (.bool true)) := by
  refine ac_of 24 Tryz.func8 rfl rfl rfl (fun al w0 F0 St0 => ?_)
  refine jcr ?_
  refine jq jrm ?_
  refine seq_nil ?_
  refine jcr ?_
  refine jq (rd_build (n := 3) rfl zr30 pl30 rfl rfl) ?_
  refine jqe (jebx 3 fun p1 => ?_)
  refine jq jrm ?_
  refine seq_nil ?_
  refine code_knowG (know_op 5 rfl) fun hn => ?_
  obtain ⟨n, rfl⟩ := hn
  refine code_ent (newW n 0 rfl (CEnt.refl _) (CEnt.refl _) CEnt.nil) ?_
  dsimp only [List.set_cons_zero, List.set_cons_succ, List.cons_append, List.nil_append, List.length_cons, List.length_nil, Nat.zero_add, Nat.reduceAdd]
  refine jcr ?_
  refine jq jrm ?_
  refine jqm (jmcH 0 (openW_ac n w0W 48 ok0) ?_)
  rintro _ _ ⟨rfl, rfl⟩
  refine ⟨_, _, rfl, CEnt.refl _, ?_⟩
  refine seq_nil ?_
  rw [e1W]
  refine jcr ?_
  refine jq jrm ?_
  refine jqm (jmcH 0 (intW_ac n w1W 5 (by decide) ok1) ?_)
  rintro _ _ ⟨rfl, rfl⟩
  refine ⟨_, _, rfl, CEnt.refl _, ?_⟩
  refine seq_nil ?_
  rw [e2W]
  refine jcr ?_
  refine jq jrm ?_
  refine jqm (jmcH 0 (closeW_ac n w2W ok2) ?_)
  rintro _ _ ⟨rfl, rfl⟩
  refine ⟨_, _, rfl, CEnt.refl _, ?_⟩
  refine seq_nil ?_
  rw [e3W]
  refine jcr ?_
  refine jq jrm ?_
  refine jqm (jmcH 0 (doneW_ac n w3W ok3) ?_)
  rintro _ _ ⟨rfl, rfl⟩
  refine ⟨_, _, rfl, CEnt.refl _, ?_⟩
  refine jq jrm ?_
  refine jq jrx ?_
  refine jq jrx ?_
  refine jq jrm ?_
  refine jq jrm ?_
  refine seq_nil ?_
  rw [show doneK w3W = 0 from rfl, show doneB w3W = [48, 3, 2, 1, 5] from rfl]
  refine jcr ?_
  refine jq jrm ?_
  refine jq jre ?_
  refine jq jrm ?_
  refine jqsp 19 (fun g20 => ?_) fun g20 => ?_
  rotate_left
  · exfalso; simp at g20
  refine jq jrm ?_
  refine jq jrbs ?_
  refine jq jrcs ?_
  refine jq jrpT ?_
  refine jq jrm ?_
  refine seq_nil ?_
  refine code_ret (jrt (hv := ?_))
  exact CEnt.refl _
def valC (v : VV) : CV := .agg 5 (fl [.c (.int .i64 v.kind), .c (.int .i64 v.n), .c (.bool v.is), bsC v.b, strC v.t])
structure OkV (v : VV) : Prop where
  n : -9223372036854775808 ≤ v.n ∧ v.n ≤ 9223372036854775807
  b : v.b.length ≤ 1000000
  t : v.t.length ≤ 1000000
theorem doW_bad {v : VV} {s : W8} (h1 : v.kind ≠ 1) (h2 : v.kind ≠ 2) (h3 : v.kind ≠ 11) : doW v s = putW (bodyV v).1 (bodyV v).2.1 (bodyV v).2.2 s := by unfold doW; rw [if_neg h1, if_neg h2, if_neg h3]
set_option maxHeartbeats 1000000 in
theorem put08_ac [OkT gs] (n : Nat) (s : W8) (v : VV) (hs : OkW s) (hv : OkV v) : AC gs Tryz.prog 25 [wrO n s] [.op 0 (some n) 0, valC v] (fun r H' => r = .c (.tuple #[]) ∧ H' = [wrO n (doW v s)]) := by
  have D : ∀ {t b e}, bodyV v = (t, b, e) → v.kind ≠ 1 → v.kind ≠ 2 → v.kind ≠ 11 → doW v s = putW t b e s := fun h h1 h2 h3 => by rw [doW_bad h1 h2 h3, h]
  refine ac_of 70 Tryz.func25 rfl rfl rfl (fun al w0 F0 St0 => ?_)
  refine jcr ?_
  refine jqe (jebx 5 fun p1 => ?_)
  refine seq_nil ?_
  refine jcr ?_
  refine jq (jrfa 0 1 false) ?_
  refine jqo jrdo ?_
  refine seq_nil ?_
  refine code_block ?_
  refine jcr ?_
  refine jq jrc ?_
  refine jq jrm ?_
  refine seq_nil ?_
  refine jcc (fun h26 => ?_) fun h26 => ?_
  · refine jcg ?_
    refine jq jrm ?_
    refine jq (jrfa 1 1 false) ?_
    refine jqo jrdo ?_
    refine jqm (jmcH 0 (openW_ac n s v.n hs) ?_)
    rintro _ _ ⟨rfl, rfl⟩
    refine ⟨_, _, rfl, CEnt.refl _, ?_⟩
    refine seq_nil ?_
    refine jbn ?_
    rw [show doW v s = openW v.n s by unfold doW; rw [if_pos (by omega)]]
    exact end_own (.inr rfl) _ [_] [0] (by decide) rfl (res_0 rfl) ⟨rfl, rfl⟩
  refine jcr ?_
  refine jq jrc ?_
  refine jq jrm ?_
  refine seq_nil ?_
  refine jcc (fun h28 => ?_) fun h28 => ?_
  · refine jcg ?_
    refine jq jrm ?_
    refine jqm (jmcH 0 (closeW_ac n s hs) ?_)
    rintro _ _ ⟨rfl, rfl⟩
    refine ⟨_, _, rfl, CEnt.refl _, ?_⟩
    refine seq_nil ?_
    refine jbn ?_
    rw [show doW v s = closeV s by unfold doW; rw [if_neg (by omega), if_pos (by omega)]]
    exact end_own (.inr rfl) _ [_] [0] (by decide) rfl (res_0 rfl) ⟨rfl, rfl⟩
  refine jcr ?_
  refine jq jrc ?_
  refine jq jrm ?_
  refine seq_nil ?_
  refine jcc (fun h30 => ?_) fun h30 => ?_
  · refine jcg ?_
    refine jq jrm ?_
    refine jq (jrfa 1 1 false) ?_
    refine jqo jrdo ?_
    refine jqm (jmcH 0 (intW_ac n s v.n hv.n hs) ?_)
    rintro _ _ ⟨rfl, rfl⟩
    refine ⟨_, _, rfl, CEnt.refl _, ?_⟩
    refine seq_nil ?_
    refine jbn ?_
    rw [D (by unfold bodyV; rw [if_pos (by omega)]) (by omega) (by omega) (by omega)]
    exact end_own (.inr rfl) _ [_] [0] (by decide) rfl (res_0 rfl) ⟨rfl, rfl⟩
  refine jcr ?_
  refine jq jrc ?_
  refine jq jrm ?_
  refine seq_nil ?_
  refine jcc (fun h32 => ?_) fun h32 => ?_
  · refine jcg ?_
    refine jq jrm ?_
    refine jq (jrfa 1 1 false) ?_
    refine jqo jrdo ?_
    refine jqm (jmcH 0 (enumW_ac n s v.n hv.n hs) ?_)
    rintro _ _ ⟨rfl, rfl⟩
    refine ⟨_, _, rfl, CEnt.refl _, ?_⟩
    refine seq_nil ?_
    refine jbn ?_
    rw [D (by unfold bodyV; rw [if_neg (by omega), if_pos (by omega)]) (by omega) (by omega) (by omega)]
    exact end_own (.inr rfl) _ [_] [0] (by decide) rfl (res_0 rfl) ⟨rfl, rfl⟩
  refine jcr ?_
  refine jq jrc ?_
  refine jq jrm ?_
  refine seq_nil ?_
  refine jcc (fun h34 => ?_) fun h34 => ?_
  · refine jcg ?_
    refine jq jrm ?_
    refine jq (jrfa 2 1 false) ?_
    refine jqo jrdo ?_
    refine jqm (jmcH 0 (boolW_ac n s v.is hs) ?_)
    rintro _ _ ⟨rfl, rfl⟩
    refine ⟨_, _, rfl, CEnt.refl _, ?_⟩
    refine seq_nil ?_
    refine jbn ?_
    rw [D (by unfold bodyV; rw [if_neg (by omega), if_neg (by omega), if_pos (by omega)]) (by omega) (by omega) (by omega)]
    exact end_own (.inr rfl) _ [_] [0] (by decide) rfl (res_0 rfl) ⟨rfl, rfl⟩
  refine jcr ?_
  refine jq jrc ?_
  refine jq jrm ?_
  refine seq_nil ?_
  refine jcc (fun h36 => ?_) fun h36 => ?_
  · refine jcg ?_
    refine jq jrm ?_
    refine jq (jrfa 3 1 false) ?_
    refine jqo jrdo ?_
    refine jqm (jmcH 0 (octetsW_ac n s v.b hv.b hs) ?_)
    rintro _ _ ⟨rfl, rfl⟩
    refine ⟨_, _, rfl, CEnt.refl _, ?_⟩
    refine seq_nil ?_
    refine jbn ?_
    rw [D (by unfold bodyV; rw [if_neg (by omega), if_neg (by omega), if_neg (by omega), if_pos (by omega)]) (by omega) (by omega) (by omega)]
    exact end_own (.inr rfl) _ [_] [0] (by decide) rfl (res_0 rfl) ⟨rfl, rfl⟩
  refine jcr ?_
  refine jq jrc ?_
  refine jq jrm ?_
  refine seq_nil ?_
  refine jcc (fun h38 => ?_) fun h38 => ?_
  · refine jcg ?_
    refine jq jrm ?_
    refine jq (jrfa 4 1 false) ?_
    refine jqo jrdo ?_
    refine jq (jrfa 1 1 false) ?_
    refine jqo jrdo ?_
    refine jqm (jmcH 0 (textW_ac n s v.t v.n hv.t hs) ?_)
    rintro _ _ ⟨rfl, rfl⟩
    refine ⟨_, _, rfl, CEnt.refl _, ?_⟩
    refine seq_nil ?_
    refine jbn ?_
    rw [D (by unfold bodyV; rw [if_neg (by omega), if_neg (by omega), if_neg (by omega), if_neg (by omega), if_pos (by omega)]) (by omega) (by omega) (by omega)]
    exact end_own (.inr rfl) _ [_] [0] (by decide) rfl (res_0 rfl) ⟨rfl, rfl⟩
  refine jcr ?_
  refine jq jrc ?_
  refine jq jrm ?_
  refine seq_nil ?_
  refine jcc (fun h40 => ?_) fun h40 => ?_
  · refine jcg ?_
    refine jq jrm ?_
    refine jq (jrfa 4 1 false) ?_
    refine jqo jrdo ?_
    refine jqm (jmcH 0 (oidW_ac n s v.t hv.t hs) ?_)
    rintro _ _ ⟨rfl, rfl⟩
    refine ⟨_, _, rfl, CEnt.refl _, ?_⟩
    refine seq_nil ?_
    refine jbn ?_
    rw [D (by unfold bodyV; rw [if_neg (by omega), if_neg (by omega), if_neg (by omega), if_neg (by omega), if_neg (by omega), if_pos (by omega)]) (by omega) (by omega) (by omega)]
    exact end_own (.inr rfl) _ [_] [0] (by decide) rfl (res_0 rfl) ⟨rfl, rfl⟩
  refine jcr ?_
  refine jq jrc ?_
  refine jq jrm ?_
  refine seq_nil ?_
  refine jcc (fun h42 => ?_) fun h42 => ?_
  · refine jcg ?_
    refine jq jrm ?_
    refine jq (jrfa 1 1 false) ?_
    refine jqo jrdo ?_
    refine jqm (jmcH 0 (momentW_ac n s v.n hs) ?_)
    rintro _ _ ⟨rfl, rfl⟩
    refine ⟨_, _, rfl, CEnt.refl _, ?_⟩
    refine seq_nil ?_
    refine jbn ?_
    rw [D (by unfold bodyV; rw [if_neg (by omega), if_neg (by omega), if_neg (by omega), if_neg (by omega), if_neg (by omega), if_neg (by omega), if_pos (by omega)]) (by omega) (by omega) (by omega)]
    exact end_own (.inr rfl) _ [_] [0] (by decide) rfl (res_0 rfl) ⟨rfl, rfl⟩
  refine jcr ?_
  refine jq jrc ?_
  refine jq jrm ?_
  refine seq_nil ?_
  refine jcc (fun h44 => ?_) fun h44 => ?_
  · refine jcg ?_
    refine jq jrm ?_
    refine jq (jrfa 3 1 false) ?_
    refine jqo jrdo ?_
    refine jqm (jmcH 0 (rawW_ac n s v.b hv.b hs) ?_)
    rintro _ _ ⟨rfl, rfl⟩
    refine ⟨_, _, rfl, CEnt.refl _, ?_⟩
    refine seq_nil ?_
    refine jbn ?_
    rw [show doW v s = rawW v.b s by unfold doW; rw [if_neg (by omega), if_neg (by omega), if_pos (by omega)]]
    exact end_own (.inr rfl) _ [_] [0] (by decide) rfl (res_0 rfl) ⟨rfl, rfl⟩
  refine jcg ?_
  refine jq jrm ?_
  refine jq (jrfa 1 1 false) ?_
  refine jqo jrdo ?_
  refine jqm (jmcH 0 (flagsW_ac n s v.n hs) ?_)
  rintro _ _ ⟨rfl, rfl⟩
  refine ⟨_, _, rfl, CEnt.refl _, ?_⟩
  refine seq_nil ?_
  refine jbn ?_
  rw [D (by unfold bodyV; rw [if_neg (by omega), if_neg (by omega), if_neg (by omega), if_neg (by omega), if_neg (by omega), if_neg (by omega), if_neg (by omega)]) (by omega) (by omega) (by omega)]
  exact end_own (.inr rfl) _ [_] [0] (by decide) rfl (res_0 rfl) ⟨rfl, rfl⟩
end Am
end Go.Proofs.YtjckfbpdieijeaaGreatDoor

/- Chapter 8: the reference's writer: put, a value's body. -/
namespace Go.Proofs.YtjckfbpdieijeaaGreatDoor
set_option linter.unusedVariables false
namespace Am
variable {gs : List Nat} [OkG gs]
open Go.RowKit Cal
set_option maxRecDepth 100000

theorem rput08_ac {gs : List Nat} (n : Nat) (s : R8) (tag : Int) (b : List UInt8) (hs : OkR s) (ht : 0 ≤ tag ∧ tag < 256) (hb : b.length ≤ 1000000) : AC gs Tryz.prog 49 [rwO n s] [.op 0 (some n) 0, .c (.int .i64 tag), bsC b] (fun r H' => r = .c (.tuple #[]) ∧ H' = [rwO n (rputS tag b s)]) := by
  refine ac_of 17 Tryz.func49 rfl rfl rfl (fun al w0 F0 St0 => ?_)
  refine jcs ?_
  refine jcr ?_
  refine jq jrm ?_
  refine jq jrl ?_
  refine jq jrc ?_
  refine seq_nil ?_
  refine jcc (fun h64 => ?_) fun h64 => ?_
  · refine code_openRW 0 rfl fun gr => ?_
    refine jcr ?_
    refine jq jrm ?_
    refine jq jrnc ?_
    refine jq (jrfa 2 1 false) ?_
    refine jqm (jmstF 1 (rwB ⟨s.tags, s.rows, 3⟩ 1 gr) ?_ ?_)
    · exact (fun j hj => by rcases j with _ | _ | _ | j <;> exact CEnt.refl _)
    refine seq_nil ?_
    refine code_ret (jtr ?_)
    have hP : rputS tag b s = ⟨s.tags, s.rows, 3⟩ := by unfold rputS; rw [if_pos (by omega)]
    rw [hP]
    exact end_closeRW (.inl rfl) n ⟨s.tags, s.rows, 3⟩ 1 (res_0 rfl) (CEnt.refl _) rfl rfl rfl (by exact CEnt.refl _) (by exact CEnt.osI rfl) (by exact CEnt.refl _) (Nat.le_refl _) (fun _ _ => by exact CEnt.refl _)
  refine code_skip (jtn ?_)
  refine jcg ?_
  refine jq jrm ?_
  refine jq jrm ?_
  refine jq jrm ?_
  refine jqe (jecP (rput_ac tag b ht (by omega)) ?_)
  refine jqm (jmcH 0 (radd08_ac n s (putL tag b) hs) ?_)
  rintro _ _ ⟨rfl, rfl⟩
  refine ⟨_, _, rfl, CEnt.refl _, ?_⟩
  refine seq_nil ?_
  have hP : rputS tag b s = raddS (putL tag b) s := by unfold rputS; rw [if_neg (by omega)]
  rw [hP]
  exact end_own (.inr rfl) _ [_] [0] (by decide) rfl (res_0 rfl) ⟨rfl, rfl⟩
def BodyQ (v : VV) : CV → List (Option Nat × Res) → Prop := fun r H' => (∃ b, r = .tup 3 (fl [.c (.int .i64 (bodyV v).1), bsC b, .c (.int .i64 ((bodyV v).2.2 : Nat))]) ∧ ((bodyV v).2.2 = 0 → b = (bodyV v).2.1)) ∧ H' = []
theorem bodyQ {v : VV} {t : Int} {b b' : List UInt8} {e : Nat} (h : bodyV v = (t, b, e)) (hb : e = 0 → b' = b) : BodyQ v (.tup 3 (fl [.c (.int .i64 t), bsC b', .c (.int .i64 (e : Nat))])) [] := by
  refine ⟨⟨b', by rw [h], fun h0 => by rw [h] at h0 ⊢; exact hb h0⟩, rfl⟩
end Am
end Go.Proofs.YtjckfbpdieijeaaGreatDoor

/- Chapter 8: the reference's writer: Done. -/
namespace Go.Proofs.YtjckfbpdieijeaaGreatDoor
set_option linter.unusedVariables false
namespace Am
variable {gs : List Nat} [OkG gs]
open Go.RowKit Cal
set_option maxRecDepth 100000

structure OkRD (s : R8) : Prop where
  ok : OkR s
  sum : ∀ j, sumL (s.rows.getD j []) ≤ 1000000
  tag : ∀ x ∈ s.tags, 0 ≤ x ∧ x < 256
  lt : s.tags.length ≠ 0 → s.tags.length < s.rows.length
theorem rdone08_ac {gs : List Nat} (n : Nat) (s : R8) (hs : OkRD s) : AC gs Tryz.prog 15 [rwO n s] [.op 0 (some n) 0] (fun r H' => r = .tup 2 (fl [bsC (rdoneB s), .c (.int .i64 (rdoneE s : Nat))]) ∧ H' = [rwO n s]) := by
  have hk0 := okR_at hs.ok 0
  have hs0 := hs.sum 0
  have bad : ∀ {e}, rdoneE s = e → e ≠ 0 → rdoneB s = [] := fun h h0 => by unfold rdoneB; rw [h, if_neg h0]
  refine ac_of 48 Tryz.func15 rfl rfl rfl (fun al w0 F0 St0 => ?_)
  refine jcr ?_
  refine jq jrm ?_
  refine jq jrm ?_
  refine seq_nil ?_
  refine jcs ?_
  refine code_openRW 0 rfl fun gr => ?_
  refine jcr ?_
  refine jq jrm ?_
  refine jq jrnc ?_
  refine jq (jrfa 2 1 false) ?_
  refine jqo jrdo ?_
  refine jq jrc ?_
  refine seq_nil ?_
  refine jcc (fun h133 => ?_) fun h133 => ?_
  · refine jcs ?_
    refine jcd (.rd 0 (.rd 1 (.rd 2 (.rd 3 (.rd 4 (.rd 5 .done)))))) ?_
    refine jyq jrm ?_
    refine jyq jrnc ?_
    refine jyq (jrfa 2 1 false) ?_
    refine jyo jrdo ?_
    refine jyq jrm ?_
    refine jyq jrm ?_
    refine jyd ?_
    refine jtn ?_
    refine code_ret (jtr ?_)
    have e : rdoneE s = s.e := by unfold rdoneE; rw [if_pos (by omega)]
    exact end_closeRW (.inl rfl) n s 1 (res_2 rfl javt javt) (CEnt.tup2 (by rw [bad e (by omega)]; exact CEnt.nilB) (CEnt.int (by rw [e]))) rfl rfl rfl (by exact CEnt.refl _) (by exact CEnt.osI rfl) (by exact CEnt.refl _) (Nat.le_refl _) (fun _ _ => by exact CEnt.refl _)
  refine code_skip (jtn ?_)
  refine jcs ?_
  refine jcr ?_
  refine jq jrm ?_
  refine jq jrnc ?_
  refine jq (jrfa 0 1 false) ?_
  refine jqo jrdo ?_
  refine jq jrl ?_
  refine jq jrc ?_
  refine seq_nil ?_
  refine jcc (fun h136 => ?_) fun h136 => ?_
  · refine jcr ?_
    refine jq jrm ?_
    refine jq jrm ?_
    refine seq_nil ?_
    refine code_ret (jtr ?_)
    have e : rdoneE s = 24 := by unfold rdoneE; rw [if_neg (by omega), if_pos (by omega)]
    exact end_closeRW (.inl rfl) n s 1 (res_2 rfl javt javt) (CEnt.tup2 (by rw [bad e (by omega)]; exact CEnt.nilB) (CEnt.int (by rw [e]; rfl))) rfl rfl rfl (by exact CEnt.refl _) (by exact CEnt.osI rfl) (by exact CEnt.refl _) (Nat.le_refl _) (fun _ _ => by exact CEnt.refl _)
  refine code_skip (jtn ?_)
  refine jcr ?_
  refine jqe (jebl 0 1 zr5 fun p1 => ?_)
  refine jq jrm ?_
  refine seq_nil ?_
  refine jcs ?_
  refine jcr ?_
  refine jq jrm ?_
  refine jq jrnc ?_
  refine jq (jrfa 1 1 false) ?_
  refine jqo jrdo ?_
  refine jq jrl ?_
  refine jq jrc ?_
  refine seq_nil ?_
  refine jcc (fun h140 => ?_) fun h140 => ?_
  rotate_left
  · refine code_skip (jtn ?_)
    refine jcs ?_
    first
      | (have hiE : i = (s.rows.getD 0 []).length := by omega
         subst hiE
         dsimp only
         rw [List.take_length] at *
         have hfl := flat_len (s.rows.getD 0 []))
      | (have h00 : s.rows.getD 0 [] = [] := by rw [List.getD_eq_getElem?_getD, List.getElem?_eq_none (by omega)]; rfl
         have hfl : ((s.rows.getD 0 []).flatten).length = 0 := by rw [h00]; rfl)
    refine jcr ?_
    refine jq jrm ?_
    refine jq jrl ?_
    refine jq jrc ?_
    refine seq_nil ?_
    refine jcc (fun h145 => ?_) fun h145 => ?_
    · refine jcr ?_
      refine jq jrm ?_
      refine jq jrm ?_
      refine seq_nil ?_
      refine code_ret (jtr ?_)
      first
        | (exfalso; simp at h145; done)
        | (have e : rdoneE s = 3 := by unfold rdoneE; rw [if_neg (by omega), if_neg (by omega), if_pos (by omega)]
           exact end_closeRW (.inl rfl) n s 1 (res_2 rfl javt javt) (CEnt.tup2 (by rw [bad e (by omega)]; exact CEnt.nilB) (CEnt.int (by rw [e]; rfl))) rfl rfl rfl (by exact CEnt.refl _) (by exact CEnt.osI rfl) (by exact CEnt.refl _) (Nat.le_refl _) (fun _ _ => by exact CEnt.refl _))
    refine code_skip (jtn ?_)
    refine jcr ?_
    refine jq jrm ?_
    refine jq jrm ?_
    refine jq jrm ?_
    refine seq_nil ?_
    refine code_ent (freeze 2 rfl) ?_
    first
      | refine code_ent (thawB 2 ((s.rows.getD 0 []).flatten) rfl rfl rfl rfl) ?_
      | refine code_ent (thawBL 2 [] rfl rfl rfl rfl .nil) ?_
    refine code_ret ?_
    have e : rdoneE s = 0 := by unfold rdoneE; rw [if_neg (by omega), if_neg (by omega), if_neg (by omega)]
    exact end_closeRW (.inl rfl) n s 1 (res_2 rfl javt javt) (CEnt.tup2 (CEnt.bs (by unfold rdoneB; rw [if_pos e]; (rw [h00]; rfl))) (CEnt.int (by rw [e]; rfl))) rfl rfl rfl (by exact CEnt.refl _) (by exact CEnt.osI rfl) (by exact CEnt.refl _) (Nat.le_refl _) (fun _ _ => by exact CEnt.refl _)
  refine jcr ?_
  refine jq jrm ?_
  refine jq jrnc ?_
  refine jq (jrfa 1 1 false) ?_
  refine jqo jrdo ?_
  refine jq (jri (i := 0)) ?_
  refine jqo jrdo ?_
  refine jq jrl ?_
  refine jq jrm ?_
  refine seq_nil ?_
  refine code_block ?_
  refine l_loop (α := Nat × Option Nat) [4, 6, 36, 37, 38, 39, 40, 41, 42, 43] (fun (i, g) => [(4, .os 2 g 0 (((s.rows.getD 0 []).take i).flatten).length 1), (36, .c (.int .i64 (i : Nat)))]) (fun (i, g) => [(some n, .blk 3 (rwB s 1 gr)), (gr, .blk s.rows.length (rowsF s.rows)), (g, .blk (((s.rows.getD 0 []).take i).flatten).length (byF ((s.rows.getD 0 []).take i).flatten))]) (fun i => i.1 ≤ (s.rows.getD 0 []).length) (fun i => (s.rows.getD 0 []).length - i.1) ((0, p1)) ?_ (fun _ => rfl) ?_ ?_ ?_
  · exact Nat.zero_le _
  · exact .cons (CEnt.osI rfl) (.cons (CEnt.refl _) .nil)
  · exact .same (.same (.blk rfl (fun j hj => absurd hj (Nat.not_lt_zero j)) .nil))
  · rintro ⟨i, g⟩ (hi : i ≤ (s.rows.getD 0 []).length)
    refine jcr ?_
    refine jq jrc ?_
    refine seq_nil ?_
    refine jcs ?_
    refine jcc (fun h141 => ?_) fun h141 => ?_
    · refine code_skip (jtn ?_)
      refine jcs ?_
      refine code_block ?_
      refine jcr ?_
      refine jq jri ?_
      refine jq jrdr ?_
      refine jq jrm ?_
      refine seq_nil ?_
      have hf1 := sumL_take (ls := s.rows.getD 0 []) (i := i) (by omega)
      have hf2 := sumL_le (s.rows.getD 0 []) (i + 1)
      have hf3 := flat_len ((s.rows.getD 0 []).take i)
      refine jcg ?_
      refine jq jrm ?_
      refine jq jrm ?_
      first | refine jqm (m_appendB rfl rfl rfl (Nat.le_refl _) (fun _ _ => CEnt.refl _) (src_rs rfl) rfl (fun j hj => by simp only [Nat.div_one]; exact CEnt.refl _) Tryz.underlying26 nu26 sz5 zr5 by5 rfl (by omega) (fun j hj => rfl) rfl rfl (fun p2 => ?_)) | refine jqm (m_appendB rfl rfl rfl (Nat.le_refl _) (fun _ _ => CEnt.refl _) (src_str rfl) rfl (fun j hj => CEnt.refl _) Tryz.underlying26 nu26 sz5 zr5 by5 rfl (by first | omega | (simp; done) | (simp; omega) | (simp at *; omega)) (fun j hj => rfl) rfl rfl (fun p2 => ?_)) | refine jqm (m_appendB rfl rfl rfl (Nat.le_refl _) (fun _ _ => CEnt.refl _) (src_os rfl (.inl rfl) (by omega)) rfl (fun j hj => by rw [Nat.zero_add]; exact CEnt.refl _) Tryz.underlying26 nu26 sz5 zr5 by5 rfl (by first | omega | (simp; done) | (simp; omega) | (simp at *; omega)) (fun j hj => rfl) rfl rfl (fun p2 => ?_))
      refine jq jrm ?_
      refine seq_nil ?_
      refine jbn (jtn ?_)
      refine jcg ?_
      refine jq jra ?_
      refine jq jrm ?_
      refine seq_nil ?_
      refine jtn ?_
      refine jlend ((i + 1, p2)) ?_ ?_ (h5 := ?_) (h7 := ?_)
      · show i + 1 ≤ (s.rows.getD 0 []).length; omega
      · show (s.rows.getD 0 []).length - (i + 1) < (s.rows.getD 0 []).length - i; omega
      · simp only [flat_take (show i < (s.rows.getD 0 []).length by omega)]
        exact .cons (CEnt.osI rfl) (.cons (CEnt.int (by omega)) .nil)
      · simp only [flat_take (show i < (s.rows.getD 0 []).length by omega)]
        exact .same (.same (.same .nil))
    refine code_exit (jte (jte (jbx (jtn ?_))))
    refine jcs ?_
    first
      | (have hiE : i = (s.rows.getD 0 []).length := by omega
         subst hiE
         dsimp only
         rw [List.take_length] at *
         have hfl := flat_len (s.rows.getD 0 []))
      | (have h00 : s.rows.getD 0 [] = [] := by rw [List.getD_eq_getElem?_getD, List.getElem?_eq_none (by omega)]; rfl
         have hfl : ((s.rows.getD 0 []).flatten).length = 0 := by rw [h00]; rfl)
    refine jcr ?_
    refine jq jrm ?_
    refine jq jrl ?_
    refine jq jrc ?_
    refine seq_nil ?_
    refine jcc (fun h145 => ?_) fun h145 => ?_
    · refine jcr ?_
      refine jq jrm ?_
      refine jq jrm ?_
      refine seq_nil ?_
      refine code_ret (jtr ?_)
      first
        | (exfalso; simp at h145; done)
        | (have e : rdoneE s = 3 := by unfold rdoneE; rw [if_neg (by omega), if_neg (by omega), if_pos (by omega)]
           exact end_closeRW (.inl rfl) n s 1 (res_2 rfl javt javt) (CEnt.tup2 (by rw [bad e (by omega)]; exact CEnt.nilB) (CEnt.int (by rw [e]; rfl))) rfl rfl rfl (by exact CEnt.refl _) (by exact CEnt.osI rfl) (by exact CEnt.refl _) (Nat.le_refl _) (fun _ _ => by exact CEnt.refl _))
    refine code_skip (jtn ?_)
    refine jcr ?_
    refine jq jrm ?_
    refine jq jrm ?_
    refine jq jrm ?_
    refine seq_nil ?_
    refine code_ent (freeze 2 rfl) ?_
    first
      | refine code_ent (thawB 2 ((s.rows.getD 0 []).flatten) rfl rfl rfl rfl) ?_
      | refine code_ent (thawBL 2 [] rfl rfl rfl rfl .nil) ?_
    refine code_ret ?_
    have e : rdoneE s = 0 := by unfold rdoneE; rw [if_neg (by omega), if_neg (by omega), if_neg (by omega)]
    exact end_closeRW (.inl rfl) n s 1 (res_2 rfl javt javt) (CEnt.tup2 (CEnt.bs (by unfold rdoneB; rw [if_pos e]; done)) (CEnt.int (by rw [e]; rfl))) rfl rfl rfl (by exact CEnt.refl _) (by exact CEnt.osI rfl) (by exact CEnt.refl _) (Nat.le_refl _) (fun _ _ => by exact CEnt.refl _)
end Am
end Go.Proofs.YtjckfbpdieijeaaGreatDoor

/- Chapter 8: the reference's writer: Do. -/
namespace Go.Proofs.YtjckfbpdieijeaaGreatDoor
set_option linter.unusedVariables false
namespace Am
variable {gs : List Nat} [OkG gs]
open Go.RowKit Cal
set_option maxRecDepth 100000

theorem okRD_tail {s : R8} (h : OkRD s) : OkR ⟨s.tags.take (s.tags.length - 1), s.rows, s.e⟩ := ⟨by have := h.ok.n; simp only [List.length_take]; omega, h.ok.r, h.ok.k⟩
theorem bodyF_if (t : Int) (l : List (List UInt8)) : bodyF (t, l) = if t = 49 then (sortL l).flatten else l.flatten := rfl
theorem in_take {l : List Int} {i : Nat} (h : i < l.length - 1) : inF l i = inF (l.take (l.length - 1)) i := by
  simp only [inF, List.getD_eq_getElem?_getD, List.getElem?_take, h, if_true]
/-- what an element is made of, in order -/
def lsF (t : Int) (l : List (List UInt8)) : List (List UInt8) := if t = 49 then sortL l else l
theorem lsF_body (t : Int) (l : List (List UInt8)) : bodyF (t, l) = (lsF t l).flatten := by unfold lsF; rw [bodyF_if]; split <;> rfl
theorem lsF_len (t : Int) (l : List (List UInt8)) : (lsF t l).length = l.length ∧ sumL (lsF t l) = sumL l := by
  unfold lsF
  split
  · exact ⟨sortL_length l, sum_perm (sortL_perm l)⟩
  · exact ⟨rfl, rfl⟩
theorem body_tag (v : VV) : 0 ≤ (bodyV v).1 ∧ (bodyV v).1 < 256 := by
  unfold bodyV
  repeat' split
  all_goals (constructor <;> dsimp only <;> omega)
theorem bodyV_len {v : VV} (h : OkV v) : (bodyV v).2.1.length ≤ 1000000 := by
  have h1 := h.b
  have h2 := h.t
  have h3 := (putN_len v.n h.n.1 h.n.2).2
  have h4 := put_len v.t
  unfold bodyV
  split
  · show (putN v.n).length ≤ _; omega
  · split
    · show (putN v.n).length ≤ _; omega
    · split
      · show [if v.is then (255 : UInt8) else 0].length ≤ _; simp
      · split
        · exact h1
        · split
          · show (if askedM v.t v.n = 0 then v.t else []).length ≤ _; split <;> first | omega | simp
          · split
            · show (putM v.t).length ≤ _; omega
            · split
              · show (if inT v.n then bodyL (ofM v.n) else []).length ≤ _
                split
                · exact Nat.le_trans (Nat.le_of_eq (show (bodyL (ofM v.n)).length = 15 from rfl)) (by decide)
                · simp
              · show (bitsL v.n).length ≤ _
                unfold bitsL
                split
                · simp
                · rw [flags_len (by omega)]
                  have := (bl_is (m := v.n.toNat) (by omega)).2
                  omega
set_option maxHeartbeats 4000000 in
theorem rdoWB_ac {gs : List Nat} (n : Nat) (s : R8) (v : VV) (hs : OkRD s) (hv : OkV v) (hB : v.kind ≠ 1 → v.kind ≠ 2 → v.kind ≠ 11 → AC gs Tryz.prog 52 [] [valC v] (BodyQ v)) : AC gs Tryz.prog 14 [rwO n s] [.op 0 (some n) 0, valC v] (fun r H' => r = .c (.tuple #[]) ∧ H' = [rwO n (rdoS v s)]) := by
  have hsn := hs.ok.n
  have hsr := hs.ok.r
  have hvb := hv.b
  have hkk := okR_at hs.ok s.tags.length
  have hss := hs.sum s.tags.length
  refine ac_of 183 Tryz.func14 rfl rfl rfl (fun al w0 F0 St0 => ?_)
  refine jcr ?_
  refine jqe (jebx 5 fun p1 => ?_)
  refine seq_nil ?_
  refine jcs ?_
  refine code_openRW 0 rfl fun gr => ?_
  refine code_ent (freeze 1 rfl) ?_
  refine code_ent (thawP 3 (m := 5) rfl rfl (by decide)) ?_
  dsimp only [List.set_cons_zero, List.set_cons_succ, List.cons_append, List.nil_append, List.length_cons, List.length_nil, Nat.zero_add, Nat.reduceAdd]
  refine jcr ?_
  refine jq jrm ?_
  refine jq jrnc ?_
  refine jq (jrfa 2 1 false) ?_
  refine jqo jrdo ?_
  refine jq jrc ?_
  refine seq_nil ?_
  refine jcc (fun h81 => ?_) fun h81 => ?_
  · refine code_ret (jtr ?_)
    rw [show rdoS v s = s by unfold rdoS; rw [if_pos (by omega)]]
    exact end_closeRW (.inl rfl) n s 2 (res_0 rfl) (CEnt.refl _) rfl rfl rfl (by exact CEnt.refl _) (by exact CEnt.osI rfl) (by exact CEnt.refl _) (Nat.le_refl _) (fun _ _ => by exact CEnt.refl _)
  refine code_skip (jtn ?_)
  refine jcr ?_
  refine jq (jrfa 0 1 false) ?_
  refine jq jrdr ?_
  refine seq_nil ?_
  refine code_block ?_
  refine jcr ?_
  refine jq jrc ?_
  refine jq jrm ?_
  refine seq_nil ?_
  refine jcc (fun h85 => ?_) fun h85 => ?_
  · refine jcr ?_
    refine jq (jrfa 1 1 false) ?_
    refine jq jrdr ?_
    refine jqe (jecP (rmade_ac v.n) ?_)
    refine jq jrn ?_
    refine seq_nil ?_
    refine jcc (fun h86 => ?_) fun h86 => ?_
    · refine jcg ?_
      refine jq jrm ?_
      refine jq jrnc ?_
      refine jq (jrfa 2 1 false) ?_
      refine jqm (jmstF 1 (rwB ⟨s.tags, s.rows, 5⟩ 2 gr) ?_ ?_)
      · exact (fun j hj => by rcases j with _ | _ | _ | j <;> exact CEnt.refl _)
      refine seq_nil ?_
      refine jbn ?_
      rw [show rdoS v s = ⟨s.tags, s.rows, 5⟩ by unfold rdoS; rw [if_neg (by omega), if_pos (by omega)]; unfold ropenS; rw [if_pos (by simp [madeM] at h86 ⊢; omega)]]
      exact end_closeRW (.inr rfl) n ⟨s.tags, s.rows, 5⟩ 2 (res_0 rfl) (CEnt.refl _) rfl rfl rfl (by exact CEnt.refl _) (by exact CEnt.osI rfl) (by exact CEnt.refl _) (Nat.le_refl _) (fun _ _ => by exact CEnt.refl _)
    refine jcr ?_
    refine jq jrm ?_
    refine jq jrnc ?_
    refine jq (jrfa 0 1 false) ?_
    refine jqo jrdo ?_
    refine jq jrl ?_
    refine jq jrc ?_
    refine seq_nil ?_
    refine jcc (fun h88 => ?_) fun h88 => ?_
    · refine jcg ?_
      refine jq jrm ?_
      refine jq jrnc ?_
      refine jq (jrfa 2 1 false) ?_
      refine jqm (jmstF 1 (rwB ⟨s.tags, s.rows, 6⟩ 2 gr) ?_ ?_)
      · exact (fun j hj => by rcases j with _ | _ | _ | j <;> exact CEnt.refl _)
      refine seq_nil ?_
      refine jbn ?_
      rw [show rdoS v s = ⟨s.tags, s.rows, 6⟩ by unfold rdoS; rw [if_neg (by omega), if_pos (by omega)]; unfold ropenS; rw [if_neg (by simp [madeM] at h86 ⊢; omega), if_pos (by omega)]]
      exact end_closeRW (.inr rfl) n ⟨s.tags, s.rows, 6⟩ 2 (res_0 rfl) (CEnt.refl _) rfl rfl rfl (by exact CEnt.refl _) (by exact CEnt.osI rfl) (by exact CEnt.refl _) (Nat.le_refl _) (fun _ _ => by exact CEnt.refl _)
    refine jcs ?_
    refine code_block ?_
    refine l_loop (α := Nat × Option Nat) [56, 57, 58, 59, 60, 61, 62, 63, 64, 65, 66, 67, 68, 69, 70, 71, 72, 73, 74, 75, 76] (fun i => []) (fun (i, g) => [(some n, .blk 3 (rwB (moreS s i) 2 g)), (p1, .frz 5 (fl [.c (.int .i64 v.kind), .c (.int .i64 v.n), .c (.bool v.is), bsC v.b, strC v.t])), (g, .blk (moreS s i).rows.length (rowsF (moreS s i).rows))]) (fun i => i.1 ≤ s.tags.length + 2 - s.rows.length) (fun i => s.tags.length + 2 - s.rows.length - i.1) ((0, gr)) ?_ (fun _ => rfl) ?_ ?_ ?_
    · exact Nat.zero_le _
    · (repeat (exact EntE.nil))
    · (show HEnt _ [(some n, Res.blk 3 (rwB (moreS s 0) 2 gr)), _, (gr, .blk (moreS s 0).rows.length (rowsF (moreS s 0).rows))]; rw [show moreS s 0 = s by unfold moreS; simp]; exact HEnt.refl _)
    · rintro ⟨i, g⟩ (hi : i ≤ s.tags.length + 2 - s.rows.length)
      have hml : (moreS s i).rows.length = s.rows.length + i := by simp [moreS]
      have hmt : (moreS s i).tags.length = s.tags.length := rfl
      refine jcs ?_
      refine jcs ?_
      refine jcd (.rd 0 (.rd 1 (.rd 2 (.rd 3 (.rd 4 (.rd 5 (.rd 6 (.rd 7 (.rd 8 (.rd 9 (.rd 10 (.rd 11 .done)))))))))))) ?_
      refine jyq jrm ?_
      refine jyq jrnc ?_
      refine jyq (jrfa 1 1 false) ?_
      refine jyo jrdo ?_
      refine jyq jrl ?_
      refine jyq jrm ?_
      refine jyq jrnc ?_
      refine jyq (jrfa 0 1 false) ?_
      refine jyo jrdo ?_
      refine jyq jrl ?_
      refine jyq jra ?_
      refine jyq jrc ?_
      refine jyd ?_
      refine jtn ?_
      refine jcc (fun h91 => ?_) fun h91 => ?_
      · refine code_skip (jtn ?_)
        refine code_block ?_
        refine jcg ?_
        refine jq jrm ?_
        refine jq jrm ?_
        refine jq jrnc ?_
        refine jq (jrfa 1 1 false) ?_
        refine jqo jrdo ?_
        refine jqe (jebl 1 1 zr56 fun p2 => ?_)
        refine seq_ent (weakH 3 1 (rowsF [[]]) rfl (Nat.le_refl _) (fun j hj => by rcases j with _ | j <;> first | exact CEnt.nilS _ _ | omega)) ?_
        refine jqm (m_appendC rowC_rows (l2 := [[]]) rfl rfl rfl rfl (Nat.le_of_eq (Nat.mul_one _)) (fun _ _ => CEnt.refl _) (src_os rfl (.inl rfl) (by decide)) rfl (fun j hj => by rw [Nat.zero_add]; exact CEnt.refl _) Tryz.underlying38 nu38 sz56 zr56 by56 rfl (by simp; omega) (by simp; omega) (fun j hj => rfl) rfl rfl (Nat.mul_one _) (fun p3 => ?_))
        refine jq jrnc ?_
        refine jq (jrfa 1 1 false) ?_
        refine jqm (jmstF 1 (rwB (moreS s (i + 1)) 2 p3) ?_ ?_)
        · exact (fun j hj => by rcases j with _ | _ | _ | j <;> first | exact CEnt.refl _ | exact CEnt.osI (by rw [more_succ]) | omega)
        refine seq_nil ?_
        refine jbn (jtn ?_)
        refine jlend ((i + 1, p3)) ?_ ?_ (h7 := ?_)
        · (show i + 1 ≤ _; omega)
        · (show _ - (i + 1) < _ - i; omega)
        · simp only [more_succ]; exact HEnt.refl _
      refine code_exit (jte (jte (jbx (jtn ?_))))
      refine jcs ?_
      have hiE : i = s.tags.length + 2 - s.rows.length := by omega
      have hpl := pad_len (s.tags.length + 2) s.rows
      dsimp only
      rw [more_pad s i _ hiE]
      rw [more_pad s i _ hiE] at hml
      have hLl : ([] ++ s.tags ++ [v.n]).length = s.tags.length + 1 := by simp
      refine jcdZ (.rd 0 (.rd 2 (.rd 3 (.rd 4 (.rd 5 (.rd 7 (.rd 8 (.two 1 (.two 6 (.one 9 (.one 10 (.rd 11 (.rd 12 (.one 13 .done))))) 9 (.one 6 (.one 10 (.rd 11 (.rd 12 (.one 13 .done)))))) 9 (.one 1 (.one 6 (.one 10 (.rd 11 (.rd 12 (.one 13 .done)))))))))))))) ?_
      refine jzq jrm ?_
      refine jzq jrm ?_
      refine jzq jrnc ?_
      refine jzq (jrfa 0 1 false) ?_
      refine jzo jrdo ?_
      refine jzq (jrfa 1 1 false) ?_
      refine jzq jrdr ?_
      refine jztwo ?_ ?_
      · refine jze (jebl 0 1 zr3 fun p2 => ?_)
        refine jztwo ?_ ?_
        · refine jzm (m_appendC rowC_in (l := []) rfl rfl rfl rfl (Nat.zero_le _) (fun j hj => absurd hj (Nat.not_lt_zero j)) (src_rs rfl) rfl (fun j hj => by simp only [Nat.div_one]; exact CEnt.refl _) Tryz.underlying22 nu22 sz3 zr3 by3 rfl (by (simp; omega)) (by (simp; omega)) (fun j hj => rfl) rfl rfl (Nat.mul_one _) (fun p3 => ?_))
          refine jze (jebl 1 1 zr3 fun p4 => ?_)
          refine jzm (m_appendC rowC_in (l2 := [v.n]) rfl rfl rfl rfl (by exact Nat.le_of_eq (Nat.mul_one _)) (fun _ _ => CEnt.refl _) (src_os rfl (.inl rfl) (by decide)) rfl (hh_ints (.cons (CEnt.int (rfl)) .nil)) Tryz.underlying22 nu22 sz3 zr3 by3 rfl (by (simp; omega)) (by (simp; omega)) (leaf_flk rfl rfl) rfl rfl (Nat.mul_one _) (fun p5 => ?_))
          refine jzq jrnc ?_
          refine jzq (jrfa 0 1 false) ?_
          refine jzm (jmst 1 ?_)
          refine jzd ?_
          refine jtn ?_
          first
            | (refine code_ent (freeze 3 rfl) ?_; refine code_ent (thawC 0 0 3 (rwB ⟨([] ++ s.tags ++ [v.n]), padR (s.tags.length + 2) s.rows, s.e⟩ 2 g) (fun i _ => inF ([] ++ s.tags ++ [v.n]) i) rfl rfl (CEnt.refl _) (CEnt.refl _) (fun j hj h0 => by rcases j with _ | _ | _ | j <;> first | omega | exact CEnt.refl _) (by simp) (fun a c ha hc => by obtain rfl : c = 0 := (by omega); rw [Nat.zero_add, Nat.mul_one, Nat.add_zero]; exact CEnt.refl _)) ?_; dsimp only [List.set_cons_zero, List.set_cons_succ, List.cons_append, List.nil_append, List.length_cons, List.length_nil, Nat.zero_add, Nat.reduceAdd])
            | (refine code_ent (freeze 4 rfl) ?_; refine code_ent (thawC 0 0 4 (rwB ⟨([] ++ s.tags ++ [v.n]), padR (s.tags.length + 2) s.rows, s.e⟩ 2 g) (fun i _ => inF ([] ++ s.tags ++ [v.n]) i) rfl rfl (CEnt.refl _) (CEnt.refl _) (fun j hj h0 => by rcases j with _ | _ | _ | j <;> first | omega | exact CEnt.refl _) (by simp) (fun a c ha hc => by obtain rfl : c = 0 := (by omega); rw [Nat.zero_add, Nat.mul_one, Nat.add_zero]; exact CEnt.refl _)) ?_; dsimp only [List.set_cons_zero, List.set_cons_succ, List.cons_append, List.nil_append, List.length_cons, List.length_nil, Nat.zero_add, Nat.reduceAdd])
          refine jcdB 10 (.rd 0 (.rd 1 (.rd 2 (.rd 3 (.rd 4 (.rd 5 (.rd 6 (.rd 7 (.rd 8 (.rd 9 .done)))))))))) ?_
          refine jyq jrm ?_
          refine jyq jrnc ?_
          refine jyq (jrfa 1 1 false) ?_
          refine jyo jrdo ?_
          refine jyq jrm ?_
          refine jyq jrnc ?_
          refine jyq (jrfa 0 1 false) ?_
          refine jyo jrdo ?_
          refine jyq jrl ?_
          refine jyq (jri (i := ([] ++ s.tags ++ [v.n]).length) (hz := by (simp only [List.length_append, List.length_cons, List.length_nil]; omega))) ?_
          refine jyd ?_
          show ASeq _ _ _ _ _ _
          refine jqm (jmstF 1 (rowsF ((padR (s.tags.length + 2) s.rows).set ([] ++ s.tags ++ [v.n]).length [])) ?_ ?_)
          · exact (fun j hj => rows_set (CEnt.nilS _ _) hj)
          refine seq_nil ?_
          refine jbn ?_
          rw [show rdoS v s = ⟨([] ++ s.tags ++ [v.n]), (padR (s.tags.length + 2) s.rows).set (s.tags.length + 1) [], s.e⟩ by unfold rdoS; rw [if_neg (by omega), if_pos (by omega)]; unfold ropenS; rw [if_neg (by simp [madeM] at h86 ⊢; omega), if_neg (by omega)]; rfl]
          exact end_closeRW (.inr rfl) n ⟨([] ++ s.tags ++ [v.n]), (padR (s.tags.length + 2) s.rows).set (s.tags.length + 1) [], s.e⟩ 2 (res_0 rfl) (CEnt.refl _) rfl rfl rfl (by exact CEnt.refl _) (by exact CEnt.osI (by simp)) (by exact CEnt.refl _) (by simp) (fun _ _ => by rw [hLl]; exact CEnt.refl _)
        · refine jze (jebl 1 1 zr3 fun p3 => ?_)
          refine jzm (m_appendC rowC_in (l := []) rfl rfl rfl rfl (Nat.zero_le _) (fun j hj => absurd hj (Nat.not_lt_zero j)) (src_rs rfl) rfl (fun j hj => by simp only [Nat.div_one]; exact CEnt.refl _) Tryz.underlying22 nu22 sz3 zr3 by3 rfl (by (simp; omega)) (by (simp; omega)) (fun j hj => rfl) rfl rfl (Nat.mul_one _) (fun p4 => ?_))
          refine jzm (m_appendC rowC_in (l2 := [v.n]) rfl rfl rfl rfl (by exact Nat.le_of_eq (Nat.mul_one _)) (fun _ _ => CEnt.refl _) (src_os rfl (.inl rfl) (by decide)) rfl (hh_ints (.cons (CEnt.int (rfl)) .nil)) Tryz.underlying22 nu22 sz3 zr3 by3 rfl (by (simp; omega)) (by (simp; omega)) (leaf_flk rfl rfl) rfl rfl (Nat.mul_one _) (fun p5 => ?_))
          refine jzq jrnc ?_
          refine jzq (jrfa 0 1 false) ?_
          refine jzm (jmst 1 ?_)
          refine jzd ?_
          refine jtn ?_
          first
            | (refine code_ent (freeze 3 rfl) ?_; refine code_ent (thawC 0 0 3 (rwB ⟨([] ++ s.tags ++ [v.n]), padR (s.tags.length + 2) s.rows, s.e⟩ 2 g) (fun i _ => inF ([] ++ s.tags ++ [v.n]) i) rfl rfl (CEnt.refl _) (CEnt.refl _) (fun j hj h0 => by rcases j with _ | _ | _ | j <;> first | omega | exact CEnt.refl _) (by simp) (fun a c ha hc => by obtain rfl : c = 0 := (by omega); rw [Nat.zero_add, Nat.mul_one, Nat.add_zero]; exact CEnt.refl _)) ?_; dsimp only [List.set_cons_zero, List.set_cons_succ, List.cons_append, List.nil_append, List.length_cons, List.length_nil, Nat.zero_add, Nat.reduceAdd])
            | (refine code_ent (freeze 4 rfl) ?_; refine code_ent (thawC 0 0 4 (rwB ⟨([] ++ s.tags ++ [v.n]), padR (s.tags.length + 2) s.rows, s.e⟩ 2 g) (fun i _ => inF ([] ++ s.tags ++ [v.n]) i) rfl rfl (CEnt.refl _) (CEnt.refl _) (fun j hj h0 => by rcases j with _ | _ | _ | j <;> first | omega | exact CEnt.refl _) (by simp) (fun a c ha hc => by obtain rfl : c = 0 := (by omega); rw [Nat.zero_add, Nat.mul_one, Nat.add_zero]; exact CEnt.refl _)) ?_; dsimp only [List.set_cons_zero, List.set_cons_succ, List.cons_append, List.nil_append, List.length_cons, List.length_nil, Nat.zero_add, Nat.reduceAdd])
          refine jcdB 10 (.rd 0 (.rd 1 (.rd 2 (.rd 3 (.rd 4 (.rd 5 (.rd 6 (.rd 7 (.rd 8 (.rd 9 .done)))))))))) ?_
          refine jyq jrm ?_
          refine jyq jrnc ?_
          refine jyq (jrfa 1 1 false) ?_
          refine jyo jrdo ?_
          refine jyq jrm ?_
          refine jyq jrnc ?_
          refine jyq (jrfa 0 1 false) ?_
          refine jyo jrdo ?_
          refine jyq jrl ?_
          refine jyq (jri (i := ([] ++ s.tags ++ [v.n]).length) (hz := by (simp only [List.length_append, List.length_cons, List.length_nil]; omega))) ?_
          refine jyd ?_
          show ASeq _ _ _ _ _ _
          refine jqm (jmstF 1 (rowsF ((padR (s.tags.length + 2) s.rows).set ([] ++ s.tags ++ [v.n]).length [])) ?_ ?_)
          · exact (fun j hj => rows_set (CEnt.nilS _ _) hj)
          refine seq_nil ?_
          refine jbn ?_
          rw [show rdoS v s = ⟨([] ++ s.tags ++ [v.n]), (padR (s.tags.length + 2) s.rows).set (s.tags.length + 1) [], s.e⟩ by unfold rdoS; rw [if_neg (by omega), if_pos (by omega)]; unfold ropenS; rw [if_neg (by simp [madeM] at h86 ⊢; omega), if_neg (by omega)]; rfl]
          exact end_closeRW (.inr rfl) n ⟨([] ++ s.tags ++ [v.n]), (padR (s.tags.length + 2) s.rows).set (s.tags.length + 1) [], s.e⟩ 2 (res_0 rfl) (CEnt.refl _) rfl rfl rfl (by exact CEnt.refl _) (by exact CEnt.osI (by simp)) (by exact CEnt.refl _) (by simp) (fun _ _ => by rw [hLl]; exact CEnt.refl _)
      · refine jze (jebl 1 1 zr3 fun p2 => ?_)
        refine jze (jebl 0 1 zr3 fun p3 => ?_)
        refine jzm (m_appendC rowC_in (l := []) rfl rfl rfl rfl (Nat.zero_le _) (fun j hj => absurd hj (Nat.not_lt_zero j)) (src_rs rfl) rfl (fun j hj => by simp only [Nat.div_one]; exact CEnt.refl _) Tryz.underlying22 nu22 sz3 zr3 by3 rfl (by (simp; omega)) (by (simp; omega)) (fun j hj => rfl) rfl rfl (Nat.mul_one _) (fun p4 => ?_))
        refine jzm (m_appendC rowC_in (l2 := [v.n]) rfl rfl rfl rfl (by exact Nat.le_of_eq (Nat.mul_one _)) (fun _ _ => CEnt.refl _) (src_os rfl (.inl rfl) (by decide)) rfl (hh_ints (.cons (CEnt.int (rfl)) .nil)) Tryz.underlying22 nu22 sz3 zr3 by3 rfl (by (simp; omega)) (by (simp; omega)) (leaf_flk rfl rfl) rfl rfl (Nat.mul_one _) (fun p5 => ?_))
        refine jzq jrnc ?_
        refine jzq (jrfa 0 1 false) ?_
        refine jzm (jmst 1 ?_)
        refine jzd ?_
        refine jtn ?_
        first
          | (refine code_ent (freeze 3 rfl) ?_; refine code_ent (thawC 0 0 3 (rwB ⟨([] ++ s.tags ++ [v.n]), padR (s.tags.length + 2) s.rows, s.e⟩ 2 g) (fun i _ => inF ([] ++ s.tags ++ [v.n]) i) rfl rfl (CEnt.refl _) (CEnt.refl _) (fun j hj h0 => by rcases j with _ | _ | _ | j <;> first | omega | exact CEnt.refl _) (by simp) (fun a c ha hc => by obtain rfl : c = 0 := (by omega); rw [Nat.zero_add, Nat.mul_one, Nat.add_zero]; exact CEnt.refl _)) ?_; dsimp only [List.set_cons_zero, List.set_cons_succ, List.cons_append, List.nil_append, List.length_cons, List.length_nil, Nat.zero_add, Nat.reduceAdd])
          | (refine code_ent (freeze 4 rfl) ?_; refine code_ent (thawC 0 0 4 (rwB ⟨([] ++ s.tags ++ [v.n]), padR (s.tags.length + 2) s.rows, s.e⟩ 2 g) (fun i _ => inF ([] ++ s.tags ++ [v.n]) i) rfl rfl (CEnt.refl _) (CEnt.refl _) (fun j hj h0 => by rcases j with _ | _ | _ | j <;> first | omega | exact CEnt.refl _) (by simp) (fun a c ha hc => by obtain rfl : c = 0 := (by omega); rw [Nat.zero_add, Nat.mul_one, Nat.add_zero]; exact CEnt.refl _)) ?_; dsimp only [List.set_cons_zero, List.set_cons_succ, List.cons_append, List.nil_append, List.length_cons, List.length_nil, Nat.zero_add, Nat.reduceAdd])
        refine jcdB 10 (.rd 0 (.rd 1 (.rd 2 (.rd 3 (.rd 4 (.rd 5 (.rd 6 (.rd 7 (.rd 8 (.rd 9 .done)))))))))) ?_
        refine jyq jrm ?_
        refine jyq jrnc ?_
        refine jyq (jrfa 1 1 false) ?_
        refine jyo jrdo ?_
        refine jyq jrm ?_
        refine jyq jrnc ?_
        refine jyq (jrfa 0 1 false) ?_
        refine jyo jrdo ?_
        refine jyq jrl ?_
        refine jyq (jri (i := ([] ++ s.tags ++ [v.n]).length) (hz := by (simp only [List.length_append, List.length_cons, List.length_nil]; omega))) ?_
        refine jyd ?_
        show ASeq _ _ _ _ _ _
        refine jqm (jmstF 1 (rowsF ((padR (s.tags.length + 2) s.rows).set ([] ++ s.tags ++ [v.n]).length [])) ?_ ?_)
        · exact (fun j hj => rows_set (CEnt.nilS _ _) hj)
        refine seq_nil ?_
        refine jbn ?_
        rw [show rdoS v s = ⟨([] ++ s.tags ++ [v.n]), (padR (s.tags.length + 2) s.rows).set (s.tags.length + 1) [], s.e⟩ by unfold rdoS; rw [if_neg (by omega), if_pos (by omega)]; unfold ropenS; rw [if_neg (by simp [madeM] at h86 ⊢; omega), if_neg (by omega)]; rfl]
        exact end_closeRW (.inr rfl) n ⟨([] ++ s.tags ++ [v.n]), (padR (s.tags.length + 2) s.rows).set (s.tags.length + 1) [], s.e⟩ 2 (res_0 rfl) (CEnt.refl _) rfl rfl rfl (by exact CEnt.refl _) (by exact CEnt.osI (by simp)) (by exact CEnt.refl _) (by simp) (fun _ _ => by rw [hLl]; exact CEnt.refl _)
  refine jcr ?_
  refine jq jrc ?_
  refine jq jrm ?_
  refine seq_nil ?_
  refine jcc (fun h97 => ?_) fun h97 => ?_
  rotate_left
  · refine jcr ?_
    refine jq jrc ?_
    refine jq jrm ?_
    refine seq_nil ?_
    refine jcc (fun h114 => ?_) fun h114 => ?_
    · refine jcr ?_
      refine jq (jrfa 3 1 false) ?_
      refine jq jrdr ?_
      refine jqe (jecP (rcheck_ac v.b hvb) ?_)
      refine jq jrm ?_
      refine jq jrx ?_
      refine jq jrx ?_
      refine jq jrm ?_
      refine jq jrm ?_
      refine seq_nil ?_
      refine jcs ?_
      refine jcr ?_
      refine jq jrm ?_
      refine jq jrc ?_
      refine seq_nil ?_
      refine jcc (fun h116 => ?_) fun h116 => ?_
      · refine jcr ?_
        refine jq jrm ?_
        refine jq jrm ?_
        refine jq jrnc ?_
        refine jq (jrfa 2 1 false) ?_
        refine jqm (jmstF 1 (rwB ⟨s.tags, s.rows, (depthM v.b).2⟩ 2 gr) ?_ ?_)
        · exact (fun j hj => by rcases j with _ | _ | _ | j <;> exact CEnt.refl _)
        refine seq_nil ?_
        refine code_ret (jtr (jbr ?_))
        rw [show rdoS v s = ⟨s.tags, s.rows, (depthM v.b).2⟩ by unfold rdoS; rw [if_neg (by omega), if_neg (by omega), if_neg (by omega), if_pos (by omega), if_pos (by omega)]]
        exact end_closeRW (.inl rfl) n ⟨s.tags, s.rows, (depthM v.b).2⟩ 2 (res_0 rfl) (CEnt.refl _) rfl rfl rfl (by exact CEnt.refl _) (by exact CEnt.osI rfl) (by exact CEnt.refl _) (Nat.le_refl _) (fun _ _ => by exact CEnt.refl _)
      refine code_skip (jtn ?_)
      refine jcg ?_
      refine jq jrm ?_
      refine jqe (jebl 0 1 zr5 fun p2 => ?_)
      refine jq (jrfa 3 1 false) ?_
      refine jq jrdr ?_
      first | refine jqm (m_appendB (l := []) rfl rfl rfl (Nat.zero_le _) (fun j hj => absurd hj (Nat.not_lt_zero j)) (src_rs rfl) rfl (fun j hj => by simp only [Nat.div_one]; exact CEnt.refl _) Tryz.underlying26 nu26 sz5 zr5 by5 rfl (by (simp; omega)) (fun j hj => rfl) rfl rfl (fun p3 => ?_)) | refine jqm (m_appendB (l := []) rfl rfl rfl (Nat.zero_le _) (fun j hj => absurd hj (Nat.not_lt_zero j)) (src_str rfl) rfl (fun j hj => CEnt.refl _) Tryz.underlying26 nu26 sz5 zr5 by5 rfl (by first | omega | (simp; done) | (simp; omega) | (simp at *; omega)) (fun j hj => rfl) rfl rfl (fun p3 => ?_)) | refine jqm (m_appendB (l := []) rfl rfl rfl (Nat.zero_le _) (fun j hj => absurd hj (Nat.not_lt_zero j)) (src_os rfl (.inl rfl) (by omega)) rfl (fun j hj => by rw [Nat.zero_add]; exact CEnt.refl _) Tryz.underlying26 nu26 sz5 zr5 by5 rfl (by first | omega | (simp; done) | (simp; omega) | (simp at *; omega)) (fun j hj => rfl) rfl rfl (fun p3 => ?_))
      refine seq_ent (freeze 3 rfl) ?_
      refine seq_ent (thawB 181 ([] ++ v.b) rfl rfl rfl rfl) ?_
      refine seq_ent (closeRW n s 0 2 rfl rfl rfl (CEnt.refl _) (CEnt.osI rfl) (CEnt.refl _) (Nat.le_refl _) (fun _ _ => CEnt.refl _)) ?_
      refine jqm (jmcH 0 (radd08_ac n s ([] ++ v.b) hs.ok) ?_)
      rintro _ _ ⟨rfl, rfl⟩
      refine ⟨_, _, rfl, CEnt.refl _, ?_⟩
      refine seq_nil ?_
      refine jbn ?_
      rw [show rdoS v s = raddS ([] ++ v.b) s by unfold rdoS; rw [if_neg (by omega), if_neg (by omega), if_neg (by omega), if_pos (by omega), if_neg (by omega)]; rfl]
      exact end_own (.inr rfl) _ [_] [0] (by decide) rfl (res_0 rfl) ⟨rfl, rfl⟩
    refine jcr ?_
    refine jq (jrdrA 5) ?_
    refine jqe (jecS (hB (by omega) (by omega) (by omega)) ?_)
    rintro _ _ ⟨⟨bb, rfl, hbb⟩, rfl⟩
    refine jq jrm ?_
    refine jq jrx ?_
    refine jq jrx ?_
    refine jq jrx ?_
    refine jq jrm ?_
    refine jq jrm ?_
    refine jq jrm ?_
    refine seq_nil ?_
    refine jcs ?_
    refine jcr ?_
    refine jq jrm ?_
    refine jq jrc ?_
    refine seq_nil ?_
    refine jcc (fun h123 => ?_) fun h123 => ?_
    · refine jcr ?_
      refine jq jrm ?_
      refine jq jrm ?_
      refine jq jrnc ?_
      refine jq (jrfa 2 1 false) ?_
      refine jqm (jmstF 1 (rwB ⟨s.tags, s.rows, (bodyV v).2.2⟩ 2 gr) ?_ ?_)
      · exact (fun j hj => by rcases j with _ | _ | _ | j <;> exact CEnt.refl _)
      refine seq_nil ?_
      refine code_ret (jtr (jbr ?_))
      rw [show rdoS v s = ⟨s.tags, s.rows, (bodyV v).2.2⟩ by unfold rdoS; rw [if_neg (by omega), if_neg (by omega), if_neg (by omega), if_neg (by omega), if_pos (by omega)]]
      exact end_closeRW (.inl rfl) n ⟨s.tags, s.rows, (bodyV v).2.2⟩ 2 (res_0 rfl) (CEnt.refl _) rfl rfl rfl (by exact CEnt.refl _) (by exact CEnt.osI rfl) (by exact CEnt.refl _) (Nat.le_refl _) (fun _ _ => by exact CEnt.refl _)
    refine code_skip (jtn ?_)
    have hb0 : bb = (bodyV v).2.1 := hbb (by omega)
    subst hb0
    refine code_ent (closeRW n s 0 2 rfl rfl rfl (CEnt.refl _) (CEnt.osI rfl) (CEnt.refl _) (Nat.le_refl _) (fun _ _ => CEnt.refl _)) ?_
    dsimp only [List.set_cons_zero, List.set_cons_succ, List.cons_append, List.nil_append, List.length_cons, List.length_nil, Nat.zero_add, Nat.reduceAdd]
    refine jcg ?_
    refine jq jrm ?_
    refine jq jrm ?_
    refine jq jrm ?_
    refine jqm (jmcH 0 (rput08_ac n s (bodyV v).1 (bodyV v).2.1 hs.ok (body_tag v) (bodyV_len hv)) ?_)
    rintro _ _ ⟨rfl, rfl⟩
    refine ⟨_, _, rfl, CEnt.refl _, ?_⟩
    refine seq_nil ?_
    refine jbn ?_
    rw [show rdoS v s = rputS (bodyV v).1 (bodyV v).2.1 s by unfold rdoS; rw [if_neg (by omega), if_neg (by omega), if_neg (by omega), if_neg (by omega), if_neg (by omega)]]
    exact end_own (.inr rfl) _ [_] [0] (by decide) rfl (res_0 rfl) ⟨rfl, rfl⟩
  refine jcr ?_
  refine jq jrm ?_
  refine jq jrnc ?_
  refine jq (jrfa 0 1 false) ?_
  refine jqo jrdo ?_
  refine jq jrl ?_
  refine jq jrm ?_
  refine seq_nil ?_
  refine jcs ?_
  refine jcr ?_
  refine jq jrm ?_
  refine jq jrc ?_
  refine seq_nil ?_
  refine jcc (fun h99 => ?_) fun h99 => ?_
  · refine jcr ?_
    refine jq jrm ?_
    refine jq jrnc ?_
    refine jq (jrfa 2 1 false) ?_
    refine jqm (jmstF 1 (rwB ⟨s.tags, s.rows, 24⟩ 2 gr) ?_ ?_)
    · exact (fun j hj => by rcases j with _ | _ | _ | j <;> exact CEnt.refl _)
    refine seq_nil ?_
    refine code_ret (jtr (jbr ?_))
    rw [show rdoS v s = ⟨s.tags, s.rows, 24⟩ by unfold rdoS; rw [if_neg (by omega), if_neg (by omega), if_pos (by omega)]; unfold rcloseS; rw [if_pos (by omega)]]
    exact end_closeRW (.inl rfl) n ⟨s.tags, s.rows, 24⟩ 2 (res_0 rfl) (CEnt.refl _) rfl rfl rfl (by exact CEnt.refl _) (by exact CEnt.osI rfl) (by exact CEnt.refl _) (Nat.le_refl _) (fun _ _ => by exact CEnt.refl _)
  refine code_skip (jtn ?_)
  have hlt := hs.lt (by omega)
  have hmem : (s.tags.getD (s.tags.length - 1) 0) ∈ s.tags := getD_mem' 0 (by omega)
  have htg := hs.tag _ hmem
  have hll := lsF_len (s.tags.getD (s.tags.length - 1) 0) (s.rows.getD s.tags.length [])
  refine jcr ?_
  refine jq jrm ?_
  refine jq jrnc ?_
  refine jq (jrfa 1 1 false) ?_
  refine jqo jrdo ?_
  refine jq jrm ?_
  refine jq jri ?_
  refine jqo jrdo ?_
  refine jq jrm ?_
  refine seq_nil ?_
  refine jcs ?_
  refine jcr ?_
  refine jq jrm ?_
  refine jq jrnc ?_
  refine jq (jrfa 0 1 false) ?_
  refine jqo jrdo ?_
  refine jq jrm ?_
  refine jq jra ?_
  refine jq (jri (i := (s.tags.length - 1)) (hz := by omega)) ?_
  refine jq jrdr ?_
  refine jq jrc ?_
  refine seq_nil ?_
  refine jcc (fun h104 => ?_) fun h104 => ?_
  rotate_left
  · refine code_skip (jtn ?_)
    first
      | refine code_ent (weaken 5 (lbC (lsF (s.tags.getD (s.tags.length - 1) 0) (s.rows.getD s.tags.length []))) (by unfold lsF; rw [if_pos h104]; exact CEnt.refl _)) ?_
      | refine code_ent (weaken 5 (lbC (lsF (s.tags.getD (s.tags.length - 1) 0) (s.rows.getD s.tags.length []))) (by unfold lsF; rw [if_neg h104]; exact CEnt.refl _)) ?_
    refine jcr ?_
    refine jqe (jebl 0 1 zr5 fun p2 => ?_)
    refine jq jrm ?_
    refine seq_nil ?_
    refine jcs ?_
    refine jcr ?_
    refine jq jrm ?_
    refine jq jrl ?_
    refine jq jrm ?_
    refine seq_nil ?_
    refine code_block ?_
    refine l_loop (α := Nat × Option Nat) [6, 8, 133, 134, 135, 136, 137, 138, 139, 140] (fun (i, g) => [(6, .os 3 g 0 (((lsF (s.tags.getD (s.tags.length - 1) 0) (s.rows.getD s.tags.length [])).take i).flatten).length 1), (133, .c (.int .i64 (i : Nat)))]) (fun (i, g) => [(some n, .blk 3 (rwB s 2 gr)), (p1, .frz 5 (fl [.c (.int .i64 v.kind), .c (.int .i64 v.n), .c (.bool v.is), bsC v.b, strC v.t])), (gr, .blk s.rows.length (rowsF s.rows)), (g, .blk (((lsF (s.tags.getD (s.tags.length - 1) 0) (s.rows.getD s.tags.length [])).take i).flatten).length (byF ((lsF (s.tags.getD (s.tags.length - 1) 0) (s.rows.getD s.tags.length [])).take i).flatten))]) (fun i => i.1 ≤ (lsF (s.tags.getD (s.tags.length - 1) 0) (s.rows.getD s.tags.length [])).length) (fun i => (lsF (s.tags.getD (s.tags.length - 1) 0) (s.rows.getD s.tags.length [])).length - i.1) ((0, p2)) ?_ (fun _ => rfl) ?_ ?_ ?_
    · exact Nat.zero_le _
    · exact .cons (CEnt.osI rfl) (.cons (CEnt.refl _) .nil)
    · exact .same (.same (.same (.blk rfl (fun j hj => absurd hj (Nat.not_lt_zero j)) .nil)))
    · rintro ⟨i, g⟩ (hi : i ≤ (lsF (s.tags.getD (s.tags.length - 1) 0) (s.rows.getD s.tags.length [])).length)
      refine jcr ?_
      refine jq jrc ?_
      refine seq_nil ?_
      refine jcs ?_
      refine jcc (fun h108 => ?_) fun h108 => ?_
      · refine code_skip (jtn ?_)
        refine jcs ?_
        refine code_block ?_
        refine jcr ?_
        refine jq jri ?_
        refine jq jrdr ?_
        refine jq jrm ?_
        refine seq_nil ?_
        have hf1 := sumL_take (ls := (lsF (s.tags.getD (s.tags.length - 1) 0) (s.rows.getD s.tags.length []))) (i := i) (by omega)
        have hf2 := sumL_le (lsF (s.tags.getD (s.tags.length - 1) 0) (s.rows.getD s.tags.length [])) (i + 1)
        have hf3 := flat_len ((lsF (s.tags.getD (s.tags.length - 1) 0) (s.rows.getD s.tags.length [])).take i)
        refine jcg ?_
        refine jq jrm ?_
        refine jq jrm ?_
        first | refine jqm (m_appendB rfl rfl rfl (Nat.le_refl _) (fun _ _ => CEnt.refl _) (src_rs rfl) rfl (fun j hj => by simp only [Nat.div_one]; exact CEnt.refl _) Tryz.underlying26 nu26 sz5 zr5 by5 rfl (by omega) (fun j hj => rfl) rfl rfl (fun p3 => ?_)) | refine jqm (m_appendB rfl rfl rfl (Nat.le_refl _) (fun _ _ => CEnt.refl _) (src_str rfl) rfl (fun j hj => CEnt.refl _) Tryz.underlying26 nu26 sz5 zr5 by5 rfl (by first | omega | (simp; done) | (simp; omega) | (simp at *; omega)) (fun j hj => rfl) rfl rfl (fun p3 => ?_)) | refine jqm (m_appendB rfl rfl rfl (Nat.le_refl _) (fun _ _ => CEnt.refl _) (src_os rfl (.inl rfl) (by omega)) rfl (fun j hj => by rw [Nat.zero_add]; exact CEnt.refl _) Tryz.underlying26 nu26 sz5 zr5 by5 rfl (by first | omega | (simp; done) | (simp; omega) | (simp at *; omega)) (fun j hj => rfl) rfl rfl (fun p3 => ?_))
        refine jq jrm ?_
        refine seq_nil ?_
        refine jbn (jtn ?_)
        refine jcg ?_
        refine jq jra ?_
        refine jq jrm ?_
        refine seq_nil ?_
        refine jtn ?_
        refine jlend ((i + 1, p3)) ?_ ?_ (h5 := ?_) (h7 := ?_)
        · show i + 1 ≤ (lsF (s.tags.getD (s.tags.length - 1) 0) (s.rows.getD s.tags.length [])).length; omega
        · show (lsF (s.tags.getD (s.tags.length - 1) 0) (s.rows.getD s.tags.length [])).length - (i + 1) < (lsF (s.tags.getD (s.tags.length - 1) 0) (s.rows.getD s.tags.length [])).length - i; omega
        · simp only [flat_take (show i < (lsF (s.tags.getD (s.tags.length - 1) 0) (s.rows.getD s.tags.length [])).length by omega)]
          exact .cons (CEnt.osI rfl) (.cons (CEnt.int (by omega)) .nil)
        · simp only [flat_take (show i < (lsF (s.tags.getD (s.tags.length - 1) 0) (s.rows.getD s.tags.length [])).length by omega)]
          exact .same (.same (.same (.same .nil)))
      refine code_exit (jte (jte (jbx (jtn ?_))))
      have hiE : i = (lsF (s.tags.getD (s.tags.length - 1) 0) (s.rows.getD s.tags.length [])).length := by omega
      subst hiE
      dsimp only
      rw [List.take_length]
      refine jcr ?_
      refine jq jrm ?_
      refine jq jrnc ?_
      refine jq (jrfa 0 1 false) ?_
      refine jqo jrdo ?_
      refine jq jrm ?_
      refine jq jra ?_
      refine jq (jri (i := (s.tags.length - 1)) (hz := by omega)) ?_
      refine jq jrdr ?_
      refine jq jrm ?_
      refine seq_nil ?_
      refine jcr ?_
      refine jq jrm ?_
      refine jq jrm ?_
      refine jq jrnc ?_
      refine jq (jrfa 0 1 false) ?_
      refine jqo jrdo ?_
      refine jq jrm ?_
      refine jq jra ?_
      refine jq (jrsr (hl := (bd_none _ _)) (hu := (bd_some rfl (show _ = (((s.tags.length - 1) : Nat) : Int) by omega)))) ?_
      refine jq jrnc ?_
      refine jq (jrfa 0 1 false) ?_
      refine jqm (jmstF 1 (rwB ⟨s.tags.take (s.tags.length - 1), s.rows, s.e⟩ 2 gr) ?_ ?_)
      · exact (fun j hj => by rcases j with _ | _ | _ | j <;> first | exact CEnt.rs (by rw [List.length_take]; omega) (fun i q hi hq => CEnt.of_eq (by rw [Nat.zero_add]; exact in_take hi)) | exact CEnt.refl _ | omega)
      refine seq_nil ?_
      refine code_ent (freeze 3 rfl) ?_
      refine code_ent (thawB 6 ((lsF (s.tags.getD (s.tags.length - 1) 0) (s.rows.getD s.tags.length [])).flatten) rfl rfl rfl rfl) ?_
      refine code_ent (closeRW n ⟨s.tags.take (s.tags.length - 1), s.rows, s.e⟩ 0 2 rfl rfl rfl (CEnt.refl _) (CEnt.osI rfl) (CEnt.refl _) (Nat.le_refl _) (fun _ _ => CEnt.refl _)) ?_
      dsimp only [List.set_cons_zero, List.set_cons_succ, List.cons_append, List.nil_append, List.length_cons, List.length_nil, Nat.zero_add, Nat.reduceAdd]
      refine jcg ?_
      refine jq jrm ?_
      refine jq jrm ?_
      refine jq jrm ?_
      refine jqm (jmcH 0 (rput08_ac n ⟨s.tags.take (s.tags.length - 1), s.rows, s.e⟩ (s.tags.getD (s.tags.length - 1) 0) ((lsF (s.tags.getD (s.tags.length - 1) 0) (s.rows.getD s.tags.length [])).flatten) (okRD_tail hs) htg (by rw [flat_len]; omega)) ?_)
      rintro _ _ ⟨rfl, rfl⟩
      refine ⟨_, _, rfl, CEnt.refl _, ?_⟩
      refine seq_nil ?_
      refine jbn ?_
      rw [show rdoS v s = rputS (s.tags.getD (s.tags.length - 1) 0) ((lsF (s.tags.getD (s.tags.length - 1) 0) (s.rows.getD s.tags.length [])).flatten) ⟨s.tags.take (s.tags.length - 1), s.rows, s.e⟩ by unfold rdoS; rw [if_neg (by omega), if_neg (by omega), if_pos (by omega)]; unfold rcloseS; rw [if_neg (by omega), lsF_body]]
      exact end_own (.inr rfl) _ [_] [0] (by decide) rfl (res_0 rfl) ⟨rfl, rfl⟩
  refine jcg ?_
  refine jq jrm ?_
  refine jqe (jecP (rsorted07_ac (s.rows.getD s.tags.length []) hkk) ?_)
  refine jq jrm ?_
  refine seq_nil ?_
  refine jtn ?_
  first
    | refine code_ent (weaken 5 (lbC (lsF (s.tags.getD (s.tags.length - 1) 0) (s.rows.getD s.tags.length []))) (by unfold lsF; rw [if_pos h104]; exact CEnt.refl _)) ?_
    | refine code_ent (weaken 5 (lbC (lsF (s.tags.getD (s.tags.length - 1) 0) (s.rows.getD s.tags.length []))) (by unfold lsF; rw [if_neg h104]; exact CEnt.refl _)) ?_
  refine jcr ?_
  refine jqe (jebl 0 1 zr5 fun p2 => ?_)
  refine jq jrm ?_
  refine seq_nil ?_
  refine jcs ?_
  refine jcr ?_
  refine jq jrm ?_
  refine jq jrl ?_
  refine jq jrm ?_
  refine seq_nil ?_
  refine code_block ?_
  refine l_loop (α := Nat × Option Nat) [6, 8, 133, 134, 135, 136, 137, 138, 139, 140] (fun (i, g) => [(6, .os 3 g 0 (((lsF (s.tags.getD (s.tags.length - 1) 0) (s.rows.getD s.tags.length [])).take i).flatten).length 1), (133, .c (.int .i64 (i : Nat)))]) (fun (i, g) => [(some n, .blk 3 (rwB s 2 gr)), (p1, .frz 5 (fl [.c (.int .i64 v.kind), .c (.int .i64 v.n), .c (.bool v.is), bsC v.b, strC v.t])), (gr, .blk s.rows.length (rowsF s.rows)), (g, .blk (((lsF (s.tags.getD (s.tags.length - 1) 0) (s.rows.getD s.tags.length [])).take i).flatten).length (byF ((lsF (s.tags.getD (s.tags.length - 1) 0) (s.rows.getD s.tags.length [])).take i).flatten))]) (fun i => i.1 ≤ (lsF (s.tags.getD (s.tags.length - 1) 0) (s.rows.getD s.tags.length [])).length) (fun i => (lsF (s.tags.getD (s.tags.length - 1) 0) (s.rows.getD s.tags.length [])).length - i.1) ((0, p2)) ?_ (fun _ => rfl) ?_ ?_ ?_
  · exact Nat.zero_le _
  · exact .cons (CEnt.osI rfl) (.cons (CEnt.refl _) .nil)
  · exact .same (.same (.same (.blk rfl (fun j hj => absurd hj (Nat.not_lt_zero j)) .nil)))
  · rintro ⟨i, g⟩ (hi : i ≤ (lsF (s.tags.getD (s.tags.length - 1) 0) (s.rows.getD s.tags.length [])).length)
    refine jcr ?_
    refine jq jrc ?_
    refine seq_nil ?_
    refine jcs ?_
    refine jcc (fun h108 => ?_) fun h108 => ?_
    · refine code_skip (jtn ?_)
      refine jcs ?_
      refine code_block ?_
      refine jcr ?_
      refine jq jri ?_
      refine jq jrdr ?_
      refine jq jrm ?_
      refine seq_nil ?_
      have hf1 := sumL_take (ls := (lsF (s.tags.getD (s.tags.length - 1) 0) (s.rows.getD s.tags.length []))) (i := i) (by omega)
      have hf2 := sumL_le (lsF (s.tags.getD (s.tags.length - 1) 0) (s.rows.getD s.tags.length [])) (i + 1)
      have hf3 := flat_len ((lsF (s.tags.getD (s.tags.length - 1) 0) (s.rows.getD s.tags.length [])).take i)
      refine jcg ?_
      refine jq jrm ?_
      refine jq jrm ?_
      first | refine jqm (m_appendB rfl rfl rfl (Nat.le_refl _) (fun _ _ => CEnt.refl _) (src_rs rfl) rfl (fun j hj => by simp only [Nat.div_one]; exact CEnt.refl _) Tryz.underlying26 nu26 sz5 zr5 by5 rfl (by omega) (fun j hj => rfl) rfl rfl (fun p3 => ?_)) | refine jqm (m_appendB rfl rfl rfl (Nat.le_refl _) (fun _ _ => CEnt.refl _) (src_str rfl) rfl (fun j hj => CEnt.refl _) Tryz.underlying26 nu26 sz5 zr5 by5 rfl (by first | omega | (simp; done) | (simp; omega) | (simp at *; omega)) (fun j hj => rfl) rfl rfl (fun p3 => ?_)) | refine jqm (m_appendB rfl rfl rfl (Nat.le_refl _) (fun _ _ => CEnt.refl _) (src_os rfl (.inl rfl) (by omega)) rfl (fun j hj => by rw [Nat.zero_add]; exact CEnt.refl _) Tryz.underlying26 nu26 sz5 zr5 by5 rfl (by first | omega | (simp; done) | (simp; omega) | (simp at *; omega)) (fun j hj => rfl) rfl rfl (fun p3 => ?_))
      refine jq jrm ?_
      refine seq_nil ?_
      refine jbn (jtn ?_)
      refine jcg ?_
      refine jq jra ?_
      refine jq jrm ?_
      refine seq_nil ?_
      refine jtn ?_
      refine jlend ((i + 1, p3)) ?_ ?_ (h5 := ?_) (h7 := ?_)
      · show i + 1 ≤ (lsF (s.tags.getD (s.tags.length - 1) 0) (s.rows.getD s.tags.length [])).length; omega
      · show (lsF (s.tags.getD (s.tags.length - 1) 0) (s.rows.getD s.tags.length [])).length - (i + 1) < (lsF (s.tags.getD (s.tags.length - 1) 0) (s.rows.getD s.tags.length [])).length - i; omega
      · simp only [flat_take (show i < (lsF (s.tags.getD (s.tags.length - 1) 0) (s.rows.getD s.tags.length [])).length by omega)]
        exact .cons (CEnt.osI rfl) (.cons (CEnt.int (by omega)) .nil)
      · simp only [flat_take (show i < (lsF (s.tags.getD (s.tags.length - 1) 0) (s.rows.getD s.tags.length [])).length by omega)]
        exact .same (.same (.same (.same .nil)))
    refine code_exit (jte (jte (jbx (jtn ?_))))
    have hiE : i = (lsF (s.tags.getD (s.tags.length - 1) 0) (s.rows.getD s.tags.length [])).length := by omega
    subst hiE
    dsimp only
    rw [List.take_length]
    refine jcr ?_
    refine jq jrm ?_
    refine jq jrnc ?_
    refine jq (jrfa 0 1 false) ?_
    refine jqo jrdo ?_
    refine jq jrm ?_
    refine jq jra ?_
    refine jq (jri (i := (s.tags.length - 1)) (hz := by omega)) ?_
    refine jq jrdr ?_
    refine jq jrm ?_
    refine seq_nil ?_
    refine jcr ?_
    refine jq jrm ?_
    refine jq jrm ?_
    refine jq jrnc ?_
    refine jq (jrfa 0 1 false) ?_
    refine jqo jrdo ?_
    refine jq jrm ?_
    refine jq jra ?_
    refine jq (jrsr (hl := (bd_none _ _)) (hu := (bd_some rfl (show _ = (((s.tags.length - 1) : Nat) : Int) by omega)))) ?_
    refine jq jrnc ?_
    refine jq (jrfa 0 1 false) ?_
    refine jqm (jmstF 1 (rwB ⟨s.tags.take (s.tags.length - 1), s.rows, s.e⟩ 2 gr) ?_ ?_)
    · exact (fun j hj => by rcases j with _ | _ | _ | j <;> first | exact CEnt.rs (by rw [List.length_take]; omega) (fun i q hi hq => CEnt.of_eq (by rw [Nat.zero_add]; exact in_take hi)) | exact CEnt.refl _ | omega)
    refine seq_nil ?_
    refine code_ent (freeze 3 rfl) ?_
    refine code_ent (thawB 6 ((lsF (s.tags.getD (s.tags.length - 1) 0) (s.rows.getD s.tags.length [])).flatten) rfl rfl rfl rfl) ?_
    refine code_ent (closeRW n ⟨s.tags.take (s.tags.length - 1), s.rows, s.e⟩ 0 2 rfl rfl rfl (CEnt.refl _) (CEnt.osI rfl) (CEnt.refl _) (Nat.le_refl _) (fun _ _ => CEnt.refl _)) ?_
    dsimp only [List.set_cons_zero, List.set_cons_succ, List.cons_append, List.nil_append, List.length_cons, List.length_nil, Nat.zero_add, Nat.reduceAdd]
    refine jcg ?_
    refine jq jrm ?_
    refine jq jrm ?_
    refine jq jrm ?_
    refine jqm (jmcH 0 (rput08_ac n ⟨s.tags.take (s.tags.length - 1), s.rows, s.e⟩ (s.tags.getD (s.tags.length - 1) 0) ((lsF (s.tags.getD (s.tags.length - 1) 0) (s.rows.getD s.tags.length [])).flatten) (okRD_tail hs) htg (by rw [flat_len]; omega)) ?_)
    rintro _ _ ⟨rfl, rfl⟩
    refine ⟨_, _, rfl, CEnt.refl _, ?_⟩
    refine seq_nil ?_
    refine jbn ?_
    rw [show rdoS v s = rputS (s.tags.getD (s.tags.length - 1) 0) ((lsF (s.tags.getD (s.tags.length - 1) 0) (s.rows.getD s.tags.length [])).flatten) ⟨s.tags.take (s.tags.length - 1), s.rows, s.e⟩ by unfold rdoS; rw [if_neg (by omega), if_neg (by omega), if_pos (by omega)]; unfold rcloseS; rw [if_neg (by omega), lsF_body]]
    exact end_own (.inr rfl) _ [_] [0] (by decide) rfl (res_0 rfl) ⟨rfl, rfl⟩
end Am
end Go.Proofs.YtjckfbpdieijeaaGreatDoor

/- Chapter 8, plain: writers stay small. -/
namespace Go.Proofs.YtjckfbpdieijeaaGreatDoor
set_option linter.unusedVariables false
namespace Am
open Go.RowKit Cal
set_option maxRecDepth 100000

/-- a value of a guarded list -/
structure SmallV (v : VV) : Prop where
  n : -9223372036854775808 ≤ v.n ∧ v.n ≤ 9223372036854775807
  b : v.b.length ≤ 300
  t : v.t.length ≤ 300
theorem SmallV.ok {v : VV} (h : SmallV v) : OkV v := ⟨h.n, by have := h.b; omega, by have := h.t; omega⟩
def frW (fr : List (Int × List (List UInt8))) : Nat := (fr.map fun x => sumL x.2 + 6).sum
def wtW (s : W8) : Nat := s.d.length + frW s.fr
theorem frW_cons (x : Int × List (List UInt8)) (fr : List (Int × List (List UInt8))) : frW (x :: fr) = sumL x.2 + 6 + frW fr := by simp [frW]
theorem sumL_snoc (l : List (List UInt8)) (b : List UInt8) : sumL (l ++ [b]) = sumL l + b.length := by rw [sumL_app]; simp [sumL]
theorem putL_len (tag : Int) (b : List UInt8) : (putL tag b).length ≤ b.length + 6 := by
  unfold putL
  have := lenL_bd b.length
  simp only [List.length_cons, List.length_append]
  omega
theorem wt_add (b : List UInt8) (s : W8) : wtW (addW b s) = wtW s + b.length := by
  obtain ⟨fr, d, k⟩ := s
  cases fr with
  | nil => simp [wtW, addW, frW]
  | cons x fr =>
    show d.length + frW ((x.1, x.2 ++ [b]) :: fr) = d.length + frW (x :: fr) + _
    rw [frW_cons, frW_cons]
    show d.length + (sumL (x.2 ++ [b]) + 6 + frW fr) = _
    rw [sumL_snoc]
    omega
theorem wt_fail (e : Nat) (s : W8) : wtW (failW e s) = wtW s := by unfold failW; split <;> rfl
theorem wt_put (tag : Int) (b : List UInt8) (e : Nat) (s : W8) : wtW (putW tag b e s) ≤ wtW s + b.length + 6 := by
  unfold putW
  split
  · rw [wt_fail]; omega
  · split
    · show s.d.length + frW s.fr ≤ _; unfold wtW; omega
    · rw [wt_add]; have := putL_len tag b; omega
theorem bodyV_small {v : VV} (h : SmallV v) : (bodyV v).2.1.length ≤ 300 := by
  have h1 := h.b
  have h2 := h.t
  have h3 := (putN_len v.n h.n.1 h.n.2).2
  have h4 := put_len v.t
  unfold bodyV
  split
  · show (putN v.n).length ≤ _; omega
  · split
    · show (putN v.n).length ≤ _; omega
    · split
      · show [if v.is then (255 : UInt8) else 0].length ≤ _; simp
      · split
        · exact h1
        · split
          · show (if askedM v.t v.n = 0 then v.t else []).length ≤ _; split <;> first | omega | simp
          · split
            · show (putM v.t).length ≤ _; omega
            · split
              · show (if inT v.n then bodyL (ofM v.n) else []).length ≤ _
                split
                · exact Nat.le_trans (Nat.le_of_eq (show (bodyL (ofM v.n)).length = 15 from rfl)) (by decide)
                · simp
              · show (bitsL v.n).length ≤ _
                unfold bitsL
                split
                · simp
                · rw [flags_len (by omega)]
                  have := (bl_is (m := v.n.toNat) (by omega)).2
                  omega
theorem wt_do {v : VV} (h : SmallV v) (s : W8) : wtW (doW v s) ≤ wtW s + 400 := by
  have hb := h.b
  unfold doW
  split
  · unfold openW
    split
    · omega
    · split
      · show s.d.length + frW s.fr ≤ _; unfold wtW; omega
      · split
        · show s.d.length + frW s.fr ≤ _; unfold wtW; omega
        · show s.d.length + frW _ ≤ _
          rw [frW_cons]
          unfold wtW
          simp [sumL]; omega
  · split
    · unfold closeV
      split
      · omega
      · obtain ⟨fr, d, k⟩ := s
        cases fr with
        | nil => show d.length + frW [] ≤ d.length + frW [] + _; omega
        | cons x fr =>
          have h1 := wt_put x.1 (bodyF x) 0 ⟨fr, d, k⟩
          rw [bodyF_len] at h1
          refine Nat.le_trans h1 ?_
          show d.length + frW fr + _ + _ ≤ d.length + frW (x :: fr) + _
          rw [frW_cons]
          omega
    · split
      · unfold rawW
        split
        · rw [wt_add]; omega
        · rw [wt_fail]; omega
      · have h1 := wt_put (bodyV v).1 (bodyV v).2.1 (bodyV v).2.2 s
        have h2 := bodyV_small h
        omega
/-! ### the rows -/
theorem pad_mem {m : Nat} {r : List (List (List UInt8))} {x : List (List UInt8)} (h : x ∈ padR m r) : x ∈ r ∨ x = [] := by
  unfold padR at h
  rcases List.mem_append.1 h with h | h
  · exact .inl h
  · exact .inr (List.eq_of_mem_replicate h)
theorem at_mem (r : List (List (List UInt8))) (j : Nat) : r.getD j [] ∈ r ∨ r.getD j [] = [] := by
  rw [List.getD_eq_getElem?_getD]
  cases e : r[j]? with
  | none => exact .inr rfl
  | some x => exact .inl (List.mem_of_getElem? e)
/-- each row is an old one, or empty, or the innermost one with one element more -/
def Grown (r r' : R8) : Prop := (r'.rows.length ≤ max r.rows.length (r'.tags.length + 1)) ∧ ∀ x ∈ r'.rows, x ∈ r.rows ∨ x = [] ∨ ∃ y b, (y ∈ r.rows ∨ y = []) ∧ x = y ++ [b] ∧ x = r'.rows.getD r'.tags.length []
theorem grown_rows {r r' : R8} (h : r'.rows = r.rows) : Grown r r' := ⟨by rw [h]; omega, fun x hx => .inl (h ▸ hx)⟩
theorem grown_add (b : List UInt8) (r : R8) : Grown r (raddS b r) := by
  have hp : r.tags.length < (padR (r.tags.length + 1) r.rows).length := by rw [pad_len]; omega
  refine ⟨?_, fun x hx => ?_⟩
  · show (List.set _ _ _).length ≤ max _ (r.tags.length + 1)
    rw [List.length_set, pad_len]
    omega
  · rcases List.mem_or_eq_of_mem_set hx with h | h
    · rcases pad_mem h with h | h
      · exact .inl h
      · exact .inr (.inl h)
    · refine .inr (.inr ⟨_, b, ?_, h, ?_⟩)
      · rw [pad_get]; exact at_mem _ _
      · show x = List.getD (List.set _ _ _) r.tags.length []
        rw [set_get _ _ _ _ hp, if_pos rfl]
        exact h
theorem grown_put (t : Int) (b : List UInt8) (r : R8) : Grown r (rputS t b r) := by
  unfold rputS
  split
  · exact grown_rows rfl
  · exact grown_add _ r
theorem grown_do (v : VV) (r : R8) : Grown r (rdoS v r) := by
  unfold rdoS
  split
  · exact grown_rows rfl
  · split
    · unfold ropenS
      split
      · exact grown_rows rfl
      · split
        · exact grown_rows rfl
        · refine ⟨?_, fun x hx => ?_⟩
          · show (List.set _ _ _).length ≤ max _ ((r.tags ++ [v.n]).length + 1)
            rw [List.length_set, pad_len, List.length_append, List.length_singleton]
            omega
          · rcases List.mem_or_eq_of_mem_set hx with h | h
            · rcases pad_mem h with h | h
              · exact .inl h
              · exact .inr (.inl h)
            · exact .inr (.inl h)
    · split
      · unfold rcloseS
        split
        · exact grown_rows rfl
        · exact grown_put _ _ ⟨_, r.rows, r.e⟩
      · split
        · split
          · exact grown_rows rfl
          · exact grown_add _ r
        · split
          · exact grown_rows rfl
          · exact grown_put _ _ r
theorem frW_mem {fr : List (Int × List (List UInt8))} {x : Int × List (List UInt8)} (h : x ∈ fr) : sumL x.2 ≤ frW fr := by
  induction fr with
  | nil => cases h
  | cons y fr ih =>
    rw [frW_cons]
    rcases List.mem_cons.1 h with rfl | h
    · omega
    · have := ih h; omega
theorem active_sum {r : R8} {s : W8} (h : Same8 r s) : sumL (r.rows.getD r.tags.length []) ≤ wtW s := by
  have hl : r.tags.length = s.fr.length := by rw [h.tags]; simp
  obtain ⟨fr, d, k⟩ := s
  cases fr with
  | nil =>
    rw [hl]
    show sumL (r.rows.getD 0 []) ≤ _
    rw [← flat_len, h.row0]
    unfold wtW
    omega
  | cons x fr =>
    have hr := h.row fr.length (by simp)
    rw [hl]
    show sumL (r.rows.getD (fr.length + 1) []) ≤ _
    rw [hr]
    have e : ((x :: fr).map Prod.snd).reverse.getD fr.length [] = x.2 := by simp [List.getD_eq_getElem?_getD]
    show sumL (((x :: fr).map Prod.snd).reverse.getD fr.length []) ≤ _
    rw [e]
    have := frW_mem (fr := x :: fr) (x := x) List.mem_cons_self
    unfold wtW
    show _ ≤ d.length + frW (x :: fr)
    omega
/-- both writers behind i values -/
structure Inv8 (i : Nat) (r : R8) (s : W8) : Prop where
  same : Same8 r s
  w : wtW s ≤ 400 * i
  rows : ∀ x ∈ r.rows, x.length ≤ i ∧ sumL x ≤ 400 * i
  n : r.rows.length ≤ 18
theorem inv_zero : Inv8 0 ⟨[], [], 0⟩ ⟨[], [], 0⟩ := ⟨same_zero, by decide, fun _ h => (by cases h), by decide⟩
theorem inv_do {i : Nat} {r : R8} {s : W8} (h : Inv8 i r s) {v : VV} (hv : SmallV v) : Inv8 (i + 1) (rdoS v r) (doW v s) := by
  have hs := same_do h.same v
  have hw := wt_do hv s
  have hg := grown_do v r
  have h0 := h.w
  have hl : (rdoS v r).tags.length ≤ 16 := by rw [hs.tags]; simpa using hs.lim
  refine ⟨hs, by omega, fun x hx => ?_, ?_⟩
  · rcases hg.2 x hx with h1 | h1 | ⟨y, b, h1, h2, h3⟩
    · have := h.rows x h1; omega
    · subst h1; simp [sumL]
    · have ha := active_sum hs
      rw [← h3] at ha
      refine ⟨?_, by omega⟩
      rw [h2, List.length_append, List.length_singleton]
      rcases h1 with h1 | h1
      · have := h.rows y h1; omega
      · subst h1; simp
  · have := hg.1
    have := h.n
    omega
theorem inv_okW {i : Nat} {r : R8} {s : W8} (h : Inv8 i r s) (hi : i ≤ 100) : OkW s := by
  have hw := h.w
  refine ⟨h.same.lim, fun x hx => ?_, by unfold wtW at hw; omega⟩
  obtain ⟨j, hj⟩ := List.mem_iff_getElem?.1 hx
  have hjl := (List.getElem?_eq_some_iff.1 hj).1
  have hr := h.same.row (s.fr.length - 1 - j) (by omega)
  have e : (s.fr.map Prod.snd).reverse.getD (s.fr.length - 1 - j) [] = x.2 := by
    rw [List.getD_eq_getElem?_getD, List.getElem?_reverse (by simp; omega)]
    simp only [List.length_map, List.getElem?_map]
    rw [show s.fr.length - 1 - (s.fr.length - 1 - j) = j by omega, hj]
    rfl
  rw [e] at hr
  have hs := frW_mem hx
  unfold wtW at hw
  refine ⟨?_, by omega⟩
  rcases at_mem r.rows (s.fr.length - 1 - j + 1) with h1 | h1
  · have := (h.rows _ h1).1
    rw [hr] at this
    omega
  · rw [hr] at h1
    rw [h1]; simp
theorem inv_okR {i : Nat} {r : R8} {s : W8} (h : Inv8 i r s) (hi : i ≤ 100) : OkRD r := by
  have hl : r.tags.length = s.fr.length := by rw [h.same.tags]; simp
  have hlim := h.same.lim
  have hn := h.n
  refine ⟨⟨by omega, by omega, fun x hx => by have := h.rows x hx; omega⟩, fun j => ?_, fun x hx => ?_, h.same.len⟩
  · rcases at_mem r.rows j with h1 | h1
    · have := h.rows _ h1; omega
    · rw [h1]; simp [sumL]
  · rw [h.same.tags] at hx
    obtain ⟨y, hy, rfl⟩ := List.mem_map.1 (List.mem_reverse.1 hx)
    exact known_bd (made_known (h.same.known y hy))
end Am
end Go.Proofs.YtjckfbpdieijeaaGreatDoor

/- Chapter 8, plain: what is written is elements that are whole, as far as they are not too deep. -/
namespace Go.Proofs.YtjckfbpdieijeaaGreatDoor
set_option linter.unusedVariables false
namespace Am
open Go.RowKit Cal
set_option maxRecDepth 100000

theorem measM_app {b r : List UInt8} (h : (measM b).e = 0) : measM (b ++ r) = ⟨0, (measM b).n, (measM b).rest ++ r⟩ := by
  match b with
  | [] => exact absurd h (by decide)
  | x :: t =>
    have e1 := measM_ne (b := x :: t) (c := x.toNat) (r := t) (by simp) rfl rfl
    have e2 := measM_ne (b := x :: (t ++ r)) (c := x.toNat) (r := t ++ r) (by simp) rfl rfl
    rw [List.cons_append, e2]
    rw [e1] at h ⊢
    by_cases h1 : x.toNat ≤ 127
    · rw [if_pos h1, if_pos h1]
    · rw [if_neg h1] at h ⊢
      rw [if_neg h1]
      by_cases h2 : x.toNat = 128 ∨ 132 < x.toNat
      · rw [if_pos h2] at h; exact absurd h (by decide)
      · rw [if_neg h2] at h ⊢
        rw [if_neg h2]
        by_cases h3 : t.length < x.toNat - 128
        · rw [if_pos h3] at h; exact absurd h (by decide)
        · rw [if_neg h3] at h ⊢
          have hg : (t ++ r).getD 0 0 = t.getD 0 0 := by
            match t, h3 with
            | [], h3 => simp at h3; omega
            | y :: t, _ => rfl
          rw [if_neg (by rw [List.length_append]; omega), List.take_append_of_le_length (by omega), hg]
          by_cases h4 : beN (t.take (x.toNat - 128)) ≤ 127 ∨ (t.getD 0 0).toNat = 0
          · rw [if_pos h4] at h; exact absurd h (by decide)
          · rw [if_neg h4] at h ⊢
            rw [if_neg h4, List.drop_append_of_le_length (by omega)]
theorem nextM_app {b r : List UInt8} (h : (nextM b).e = 0) : nextM (b ++ r) = ⟨0, (nextM b).tag, (nextM b).body, (nextM b).rest ++ r⟩ := by
  match b with
  | [] => exact absurd h (by decide)
  | x :: t =>
    by_cases hk : knownM (x.toNat : Nat) = true
    · have e1 := nextM_ne (b := x :: t) (t := x.toNat) (m := measM t) (by simp) rfl hk rfl
      have e2 := nextM_ne (b := x :: (t ++ r)) (t := x.toNat) (m := measM (t ++ r)) (by simp) rfl hk rfl
      rw [List.cons_append, e2]
      rw [e1] at h ⊢
      by_cases h1 : (measM t).e = 0
      · rw [measM_app h1]
        rw [if_neg (show ¬ (measM t).e ≠ 0 by omega)] at h ⊢
        rw [if_neg (show ¬ (Ms.mk 0 (measM t).n ((measM t).rest ++ r)).e ≠ 0 by simp)]
        by_cases h2 : 65530 < (measM t).n
        · rw [if_pos h2] at h; exact absurd h (by decide)
        · rw [if_neg h2] at h ⊢
          rw [if_neg h2]
          by_cases h3 : (measM t).rest.length < (measM t).n
          · rw [if_pos h3] at h; exact absurd h (by decide)
          · rw [if_neg h3, if_neg (by simp only [List.length_append]; omega)]
            simp only
            rw [List.take_append_of_le_length (by omega), List.drop_append_of_le_length (by omega)]
      · rw [if_pos h1] at h; exact absurd h h1
    · exfalso
      unfold nextM at h
      rw [if_neg (by simp), if_pos (by simpa using hk)] at h
      exact absurd h (by decide)
/-- an element that is whole, as far as it is not too deep -/
structure Elt (x : List UInt8) (t : Nat) (b : List UInt8) : Prop where
  nx : ∀ r, nextM (x ++ r) = ⟨0, t, b, r⟩
  pos : 0 < x.length
  wh : ∀ lv, lv ≤ 16 → (wholeM lv t b).2 = 0 ∨ (wholeM lv t b).2 = 6
def IsE (x : List UInt8) : Prop := ∃ t b, Elt x t b
theorem loop_low {rec rec' : Nat → List UInt8 → Nat × Nat} {set : Bool} {lv : Nat} (hr : ∀ t b, (rec t b).2 = 0 ∨ (rec t b).2 = 6 → ((rec' t b).2 = 0 ∨ (rec' t b).2 = 6) ∧ ((rec t b).2 = 6 → (rec' t b).2 = 6)) : ∀ (fuel : Nat) (b last : List UInt8) (dp dp' : Nat),
    (loopW rec set (lv + 2) fuel b last dp).2 = 0 ∨ (loopW rec set (lv + 2) fuel b last dp).2 = 6 → ((loopW rec' set (lv + 1) fuel b last dp').2 = 0 ∨ (loopW rec' set (lv + 1) fuel b last dp').2 = 6) ∧ ((loopW rec set (lv + 2) fuel b last dp).2 = 6 → (loopW rec' set (lv + 1) fuel b last dp').2 = 6)
  | 0, _, _, _, _, h => ⟨.inl rfl, fun h => by simp [loopW] at h⟩
  | fuel + 1, b, last, dp, dp', h => by
    have hb := (nextM_bd b).1
    unfold loopW at h ⊢
    by_cases h0 : b.length = 0
    · rw [if_pos h0, if_pos h0]; exact ⟨.inl rfl, fun h => by simp at h⟩
    · rw [if_neg h0] at h ⊢
      rw [if_neg h0]
      by_cases h1 : (nextM b).e ≠ 0
      · rw [if_pos h1] at h; simp only at h; omega
      · rw [if_neg h1] at h ⊢
        rw [if_neg h1]
        rw [if_neg (show ¬ lv + 2 ≤ 1 by omega)] at h ⊢
        by_cases hl : lv + 1 ≤ 1
        · rw [if_pos hl]; exact ⟨.inr rfl, fun _ => rfl⟩
        · rw [if_neg hl]
          by_cases h2 : (rec (nextM b).tag (nextM b).body).2 ≠ 0
          · rw [if_pos h2] at h ⊢
            simp only at h
            have h6 := (hr _ _ h).2 (by omega)
            rw [if_pos (by omega)]
            exact ⟨.inr h6, fun _ => h6⟩
          · rw [if_neg h2] at h ⊢
            have hq := (hr (nextM b).tag (nextM b).body (by omega)).1
            by_cases h3 : set = true ∧ Op.bytesLess (b.take (b.length - (nextM b).rest.length)) last = true
            · rw [if_pos h3] at h; simp only at h; omega
            · rw [if_neg h3] at h ⊢
              by_cases h4 : (rec' (nextM b).tag (nextM b).body).2 ≠ 0
              · rw [if_pos h4]; exact ⟨.inr (by simp only; omega), fun _ => by simp only; omega⟩
              · rw [if_neg h4, if_neg h3]
                exact loop_low hr fuel _ _ _ _ h
theorem whole_low : ∀ (lv t : Nat) (b : List UInt8), (wholeM (lv + 1) t b).2 = 0 ∨ (wholeM (lv + 1) t b).2 = 6 → ((wholeM lv t b).2 = 0 ∨ (wholeM lv t b).2 = 6) ∧ ((wholeM (lv + 1) t b).2 = 6 → (wholeM lv t b).2 = 6 ∨ lv = 0)
  | 0, t, b, h => ⟨.inl rfl, fun _ => .inr rfl⟩
  | lv + 1, t, b, h => by
    by_cases hm : madeM (t : Nat) = false
    · rw [wholeM_not hm, wholeM_not hm]; exact ⟨.inl rfl, fun h => by simp at h⟩
    · rw [wholeM, if_neg hm] at h ⊢
      rw [wholeM, if_neg hm]
      cases lv with
      | zero =>
        cases hf : b.length with
        | zero => exact ⟨.inl rfl, fun h => by simp [loopW] at h⟩
        | succ f =>
          rw [hf] at h
          have hb := (nextM_bd b).1
          unfold loopW at h ⊢
          rw [if_neg (show ¬ b.length = 0 by omega)] at h ⊢
          by_cases h1 : (nextM b).e ≠ 0
          · rw [if_pos h1] at h; simp only at h; omega
          · rw [if_neg h1, if_pos (by omega)]; exact ⟨.inr rfl, fun _ => .inl rfl⟩
      | succ lv =>
        have := loop_low (rec := wholeM (lv + 1 + 1)) (rec' := wholeM (lv + 1)) (set := decide (t = 49)) (lv := lv + 1) (fun t b h => ⟨(whole_low (lv + 1) t b h).1, fun h6 => by
          rcases (whole_low (lv + 1) t b h).2 h6 with h7 | h7
          · exact h7
          · omega⟩) b.length b [] 1 1 h
        exact ⟨this.1, fun h6 => .inl (this.2 h6)⟩
theorem whole_all {n t : Nat} {b : List UInt8} (h : (wholeM n t b).2 = 0 ∨ (wholeM n t b).2 = 6) : ∀ k, k ≤ n → (wholeM (n - k) t b).2 = 0 ∨ (wholeM (n - k) t b).2 = 6
  | 0, _ => h
  | k + 1, hk => by
    have h1 := whole_all h k (by omega)
    rw [show n - k = (n - (k + 1)) + 1 by omega] at h1
    exact (whole_low _ t b h1).1
theorem isE_raw {b : List UInt8} (h : (depthM b).2 = 0) : IsE b := by
  unfold depthM at h
  by_cases h1 : 65536 < b.length
  · rw [if_pos h1] at h; exact absurd h (by decide)
  · rw [if_neg h1] at h
    by_cases h2 : (nextM b).e ≠ 0
    · rw [if_pos h2] at h; exact absurd h h2
    · rw [if_neg h2] at h
      by_cases h3 : 0 < (nextM b).rest.length
      · rw [if_pos h3] at h; exact absurd h (by decide)
      · rw [if_neg h3] at h
        have hr : (nextM b).rest = [] := List.eq_nil_of_length_eq_zero (by omega)
        refine ⟨(nextM b).tag, (nextM b).body, fun r => by rw [nextM_app (by omega), hr]; rfl, ?_, fun lv hlv => ?_⟩
        · cases b with
          | nil => exact absurd (show (nextM ([] : List UInt8)).e ≠ 0 by decide) h2
          | cons x t => simp
        · have := whole_all (n := 16) (.inl h) (16 - lv) (by omega)
          rwa [show 16 - (16 - lv) = lv by omega] at this
theorem loop_kids {lv : Nat} {set : Bool} (hlv : lv ≤ 16) : ∀ (ks : List (List UInt8)) (fuel : Nat) (last : List UInt8) (dp lv1 : Nat), (∀ x ∈ ks, IsE x) → ks.flatten.length ≤ fuel → (set = true → (last :: ks).Pairwise fun a b => leL a b = true) →
    (loopW (wholeM lv) set lv1 fuel ks.flatten last dp).2 = 0 ∨ (loopW (wholeM lv) set lv1 fuel ks.flatten last dp).2 = 6
  | [], fuel, last, dp, lv1, _, _, _ => by
    rw [List.flatten_nil, loopW_nil]; exact .inl rfl
  | x :: ks, fuel, last, dp, lv1, hk, hf, hs => by
    obtain ⟨t, b, hx⟩ := hk x List.mem_cons_self
    have hn := hx.nx ks.flatten
    have hp := hx.pos
    rw [List.flatten_cons] at hf ⊢
    rw [List.length_append] at hf
    cases fuel with
    | zero => omega
    | succ fuel =>
      unfold loopW
      rw [hn]
      simp only
      rw [if_neg (by rw [List.length_append]; omega), if_neg (by simp)]
      split
      · exact .inr rfl
      · have hw := hx.wh lv hlv
        split
        · exact .inr (by simp only; omega)
        · have ht : (x ++ ks.flatten).take ((x ++ ks.flatten).length - ks.flatten.length) = x := by
            rw [List.length_append, Nat.add_sub_cancel, List.take_left]
          rw [ht]
          have hset : ¬(set = true ∧ Op.bytesLess x last = true) := by
            rintro ⟨h1, h2⟩
            have h3 := (List.pairwise_cons.1 (hs h1)).1 x List.mem_cons_self
            rw [← cmpL_lt] at h2
            have h4 := cmpL_swap last x
            simp only [leL, decide_eq_true_eq] at h3 h2
            omega
          rw [if_neg hset]
          exact loop_kids hlv ks fuel x _ lv1 (fun y hy => hk y (List.mem_cons_of_mem _ hy)) (by omega) fun h1 => (List.pairwise_cons.1 (hs h1)).2
theorem isE_put {tag : Int} {body : List UInt8} (hk : knownM tag = true) (hb : body.length ≤ 65530) (hw : ∀ lv, lv ≤ 16 → (wholeM lv tag.toNat body).2 = 0 ∨ (wholeM lv tag.toNat body).2 = 6) : IsE (putL tag body) :=
  ⟨tag.toNat, body, fun r => next_put hk hb, by simp [putL], hw⟩
theorem isE_plain {tag : Int} {body : List UInt8} (hk : knownM tag = true) (hm : madeM tag = false) (hb : body.length ≤ 65530) : IsE (putL tag body) :=
  isE_put hk hb fun lv _ => by
    have ht := known_bd hk
    rw [wholeM_not (by rw [Int.toNat_of_nonneg ht.1]; exact hm)]
    exact .inl rfl
theorem sort_first (ls : List (List UInt8)) : ([] :: sortL ls).Pairwise fun a b => leL a b = true := by
  refine List.pairwise_cons.2 ⟨fun x _ => ?_, sortL_sorted ls⟩
  cases x <;> simp [leL, cmpL]
theorem isE_close {x : Int × List (List UInt8)} (hm : madeM x.1 = true) (hk : ∀ y ∈ x.2, IsE y) (hb : (bodyF x).length ≤ 65530) : IsE (putL x.1 (bodyF x)) := by
  have ht := known_bd (made_known hm)
  refine isE_put (made_known hm) hb fun lv hlv => ?_
  cases lv with
  | zero => exact .inl rfl
  | succ lv =>
    rw [wholeM, if_neg (by rw [Int.toNat_of_nonneg ht.1, hm]; decide)]
    unfold bodyF
    by_cases h49 : x.1 = 49
    · rw [if_pos h49]
      exact loop_kids (by omega) _ _ _ _ _ (fun y hy => hk y ((sortL_perm x.2).mem_iff.1 hy)) (Nat.le_refl _) fun _ => sort_first x.2
    · rw [if_neg h49]
      exact loop_kids (by omega) _ _ _ _ _ hk (Nat.le_refl _) fun h => by simp at h; omega
structure GoodW (s : W8) : Prop where
  fr : ∀ f ∈ s.fr, madeM f.1 = true ∧ ∀ y ∈ f.2, IsE y
  d : ∃ xs : List (List UInt8), s.d = xs.flatten ∧ ∀ x ∈ xs, IsE x
theorem good_zero : GoodW ⟨[], [], 0⟩ := ⟨fun _ h => (by cases h), [], rfl, fun _ h => by cases h⟩
theorem good_k {s : W8} (h : GoodW s) (e : Nat) : GoodW ⟨s.fr, s.d, e⟩ := ⟨h.fr, h.d⟩
theorem good_add {s : W8} (h : GoodW s) {b : List UInt8} (hb : IsE b) : GoodW (addW b s) := by
  obtain ⟨fr, d, k⟩ := s
  cases fr with
  | nil =>
    obtain ⟨xs, h1, h2⟩ := h.d
    refine ⟨fun _ h => (by cases h), xs ++ [b], ?_, fun x hx => ?_⟩
    · show d ++ b = _
      rw [show d = xs.flatten from h1]; simp
    · rcases List.mem_append.1 hx with hx | hx
      · exact h2 x hx
      · rw [List.mem_singleton.1 hx]; exact hb
  | cons x fr =>
    refine ⟨fun f hf => ?_, h.d⟩
    rcases List.mem_cons.1 hf with rfl | hf
    · refine ⟨(h.fr x List.mem_cons_self).1, fun y hy => ?_⟩
      rcases List.mem_append.1 hy with hy | hy
      · exact (h.fr x List.mem_cons_self).2 y hy
      · rw [List.mem_singleton.1 hy]; exact hb
    · exact h.fr f (List.mem_cons_of_mem _ hf)
theorem good_fail {s : W8} (h : GoodW s) (e : Nat) : GoodW (failW e s) := by unfold failW; split <;> first | exact good_k h e | exact h
theorem good_put {s : W8} (h : GoodW s) {tag : Int} {b : List UInt8} {e : Nat} (hb : putE tag b = 0 → IsE (putL tag b)) : GoodW (putW tag b e s) := by
  unfold putW
  split
  · exact good_fail h e
  · split
    · exact good_k h _
    · exact good_add h (hb (by omega))
theorem putE_ok {tag : Int} {b : List UInt8} (h : putE tag b = 0) : knownM tag = true ∧ b.length ≤ 65530 := by
  unfold putE at h
  split at h
  · exact absurd h (by decide)
  · rename_i h1
    split at h
    · exact absurd h (by decide)
    · exact ⟨by simpa using h1, by omega⟩
theorem good_do {s : W8} (h : GoodW s) (v : VV) : GoodW (doW v s) := by
  unfold doW
  split
  · unfold openW
    split
    · exact h
    · split
      · exact good_k h _
      · rename_i hm
        split
        · exact good_k h _
        · refine ⟨fun f hf => ?_, h.d⟩
          rcases List.mem_cons.1 hf with rfl | hf
          · exact ⟨by simpa using hm, fun _ h => by cases h⟩
          · exact h.fr f hf
  · split
    · unfold closeV
      split
      · exact h
      · obtain ⟨fr, d, k⟩ := s
        cases fr with
        | nil => exact ⟨h.fr, h.d⟩
        | cons x fr =>
          have hx := h.fr x List.mem_cons_self
          exact good_put (s := ⟨fr, d, k⟩) ⟨fun f hf => h.fr f (List.mem_cons_of_mem _ hf), h.d⟩ fun he => isE_close hx.1 hx.2 (putE_ok he).2
    · split
      · unfold rawW
        split
        · rename_i h1
          refine good_add h (isE_raw ?_)
          unfold failW at h1
          split at h1
          · exact h1
          · rename_i h2; exact absurd h1 h2
        · exact good_fail h _
      · refine good_put h fun he => isE_plain (putE_ok he).1 ?_ (putE_ok he).2
        unfold bodyV
        repeat' split
        all_goals rfl
end Am
end Go.Proofs.YtjckfbpdieijeaaGreatDoor

/- Chapter 8: the reader as one thing; what it reads of itself. -/
namespace Go.Proofs.YtjckfbpdieijeaaGreatDoor
set_option linter.unusedVariables false
namespace Am
open Go.RowKit
set_option maxRecDepth 100000

def rdE (l : List (List UInt8)) (k : Nat) (z : Nat × Option Nat) : List (Option Nat × Res) := [(some z.1, .blk 2 (fl [.os 1 z.2 0 l.length 1, .err k])), (z.2, .blk l.length (lbF l))]
/-- a reader: what is left of the elements that it has entered, and its error -/
def rdO (n : Nat) (l : List (List UInt8)) (k : Nat) : Option Nat × Res := objE n (fun z : Nat × Option Nat => z.1) (rdE l k)
section
variable {P : Program} {G : Gh} {s : AS} {c : Code} {R : Exit → AS → Prop} {n k : Nat} {l : List (List UInt8)}
end
/-- what is left of the innermost element -/
def nowL (l : List (List UInt8)) : List UInt8 := l.getD (l.length - 1) []
def moreM (l : List (List UInt8)) (k : Nat) : Bool := decide (k = 0) && decide (0 < (nowL l).length)
end Am
end Go.Proofs.YtjckfbpdieijeaaGreatDoor

/- Chapter 8: the reader's next element. -/
namespace Go.Proofs.YtjckfbpdieijeaaGreatDoor
set_option linter.unusedVariables false
namespace Am
variable {gs : List Nat} [OkG gs]
open Go.RowKit
set_option maxRecDepth 100000

structure NR where
  l : List (List UInt8)
  k : Nat
  tag : Nat
  body : List UInt8
  raw : List UInt8
  is : Bool
/-- the next element of a tag -/
def nextR (tag : Int) (l : List (List UInt8)) (k : Nat) : NR :=
  if k ≠ 0 then ⟨l, k, 0, [], [], false⟩ else
  if (nextM (nowL l)).e ≠ 0 then ⟨l, (nextM (nowL l)).e, 0, [], [], false⟩ else
  if tag ≠ 0 ∧ ((nextM (nowL l)).tag : Int) ≠ tag then ⟨l, 5, 0, [], [], false⟩ else
  ⟨l.set (l.length - 1) (nextM (nowL l)).rest, 0, (nextM (nowL l)).tag, (nextM (nowL l)).body, (nowL l).take ((nowL l).length - (nextM (nowL l)).rest.length), true⟩
end Am
end Go.Proofs.YtjckfbpdieijeaaGreatDoor

/- Chapter 8: the reader: Enter, Leave, End, Raw, Read. -/
namespace Go.Proofs.YtjckfbpdieijeaaGreatDoor
set_option linter.unusedVariables false
namespace Am
variable {gs : List Nat} [OkG gs]
open Go.RowKit
set_option maxRecDepth 100000

/-- an element is entered -/
def enterR (tag : Int) (l : List (List UInt8)) (k : Nat) : NR :=
  nextR tag l (if moreM l k = true ∧ madeM tag = false then 5 else k)
def enterL (tag : Int) (l : List (List UInt8)) (k : Nat) : List (List UInt8) := if (enterR tag l k).is = true then (enterR tag l k).l ++ [(enterR tag l k).body] else (enterR tag l k).l
/-- an element is left -/
def leaveK (l : List (List UInt8)) (k : Nat) : Nat := if k ≠ 0 then k else if l.length = 1 then 24 else if 0 < (nowL l).length then 4 else 0
def leaveL (l : List (List UInt8)) (k : Nat) : List (List UInt8) := if leaveK l k = 0 then l.take (l.length - 1) else l
/-- the first error, at the end -/
def endK (l : List (List UInt8)) (k : Nat) : Nat := if k ≠ 0 then k else if 1 < l.length then 24 else if 0 < (l.getD 0 []).length then 4 else 0
end Am
end Go.Proofs.YtjckfbpdieijeaaGreatDoor

/- Chapter 8: the reader's values: whole numbers. -/
namespace Go.Proofs.YtjckfbpdieijeaaGreatDoor
set_option linter.unusedVariables false
namespace Am
variable {gs : List Nat} [OkG gs]
open Go.RowKit
set_option maxRecDepth 100000

/-- the reader's error behind a value whose body has this error -/
def valK (tag : Int) (l : List (List UInt8)) (k : Nat) (e : List UInt8 → Nat) : Nat := if (nextR tag l k).is = true then e (nextR tag l k).body else (nextR tag l k).k
/-- two numbers that a closure holds -/
def twoF (a b : Int) : Nat → CV := fl [.rp 1 fun _ => .c (.int .i64 a), .rp 1 fun _ => .c (.int .i64 b)]
end Am
end Go.Proofs.YtjckfbpdieijeaaGreatDoor

/- Chapter 8: a reader is made. -/
namespace Go.Proofs.YtjckfbpdieijeaaGreatDoor
set_option linter.unusedVariables false
namespace Am
variable {gs : List Nat} [OkG gs]
open Go.RowKit
set_option maxRecDepth 100000

end Am
end Go.Proofs.YtjckfbpdieijeaaGreatDoor

/- bullanum.Err: the error of a number. -/
namespace Go.Proofs.YtjckfbpdieijeaaGreatDoor
set_option linter.unusedVariables false
namespace Am
variable {gs : List Nat} [OkG gs]
open Go.RowKit
set_option maxRecDepth 100000

end Am
end Go.Proofs.YtjckfbpdieijeaaGreatDoor

/- Chapter 8: what the laws need besides: lists of values, long, errors by number. -/
namespace Go.Proofs.YtjckfbpdieijeaaGreatDoor
set_option linter.unusedVariables false
namespace Am
variable {gs : List Nat} [OkG gs]
open Go.RowKit Cal
set_option maxRecDepth 100000

def valF (v : VV) : Nat → CV := fl [.c (.int .i64 v.kind), .c (.int .i64 v.n), .c (.bool v.is), bsC v.b, strC v.t]
def vsC (vs : List VV) : CV := .rs 5 vs.length fun i j => valF (vs.getD i VV.none) j
def bigV (v : VV) : Bool := decide (300 < v.b.length) || decide (300 < v.t.length)
def longM (vs : List VV) : Bool := decide (60 < vs.length) || vs.any bigV
theorem long_not {vs : List VV} (h : longM vs = false) : vs.length ≤ 60 ∧ ∀ v ∈ vs, v.b.length ≤ 300 ∧ v.t.length ≤ 300 := by
  unfold longM at h
  simp only [Bool.or_eq_false_iff, decide_eq_false_iff_not] at h
  refine ⟨by omega, fun v hv => ?_⟩
  have := List.any_eq_false.1 h.2 v hv
  simp only [bigV, Bool.or_eq_true, decide_eq_true_eq] at this
  omega
theorem any_take {vs : List VV} {i : Nat} (h : i < vs.length) : (vs.take (i + 1)).any bigV = ((vs.take i).any bigV || bigV (vs.getD i VV.none)) := by
  rw [List.take_succ_eq_append_getElem h, List.any_append]
  simp [List.getD_eq_getElem?_getD, h]
theorem long08_ac {gs : List Nat} (vs : List VV) : ACp gs Tryz.prog 24 [vsC vs] (.c (.bool (longM vs))) := by
  refine ac_of 25 Tryz.func24 rfl rfl rfl (fun al w0 F0 St0 => ?_)
  refine jcr ?_
  refine jq jrm ?_
  refine seq_nil ?_
  refine jcs ?_
  refine jcr ?_
  refine jq jrm ?_
  refine jq jrl ?_
  refine jq jrc ?_
  refine seq_nil ?_
  refine jcc (fun h53 => ?_) fun h53 => ?_
  · refine jcr ?_
    refine jq jrm ?_
    refine seq_nil ?_
    refine code_ret (jtr (jrt (hv := CEnt.bool (by unfold longM; simp; omega))))
  refine code_skip (jtn ?_)
  refine jcs ?_
  refine jcr ?_
  refine jq jrm ?_
  refine jq jrl ?_
  refine jq jrm ?_
  refine seq_nil ?_
  refine code_block ?_
  refine l_loop (α := Nat) [2, 4, 10, 11, 12, 13, 14, 15, 16, 17, 18, 19, 20, 21, 22, 23, 24] (fun i => [(10, .c (.int .i64 (i : Nat)))]) (fun _ => []) (fun i => i ≤ vs.length ∧ (vs.take i).any bigV = false) (fun i => vs.length - i) (0) ?_ (fun _ => rfl) ?_ ?_ ?_
  · exact ⟨Nat.zero_le _, rfl⟩
  · exact .cons (CEnt.refl _) .nil
  · (repeat (first | exact HEnt.nil | refine HEnt.same ?_ | refine HEnt.blk rfl (fun j hj => by rcases j with _|_|_|_|_|_|_|_|j <;> first | exact CEnt.refl _ | exact CEnt.int (by omega) | omega) ?_))
  · rintro i ⟨(hi : i ≤ vs.length), (ha : (vs.take i).any bigV = false)⟩
    refine jcr ?_
    refine jq jrc ?_
    refine seq_nil ?_
    refine jcs ?_
    refine jcc (fun h56 => ?_) fun h56 => ?_
    rotate_left
    · refine code_exit (jte (jte (jbx (jtn ?_))))
      refine jcr ?_
      refine jq jrm ?_
      refine seq_nil ?_
      refine code_ret (jrt (hv := ?_))
      have hi2 : i = vs.length := by omega
      have ha2 : vs.any bigV = false := by rw [hi2, List.take_length] at ha; exact ha
      exact CEnt.bool (by unfold longM; rw [ha2, Bool.or_false]; simp; omega)
    refine code_skip (jtn ?_)
    refine jcs ?_
    refine code_block ?_
    refine jcr ?_
    refine jq jri ?_
    refine jq (jrdrA 5) ?_
    refine jqe (jeal (n := 5) zr43 rfl fun p1 => ?_)
    refine jqm (jmst 5 ?_)
    refine seq_nil ?_
    refine jcr ?_
    refine jq (jrfa 3 1 false) ?_
    refine jqo jrdo ?_
    refine jq jrl ?_
    refine jq jrc ?_
    refine jq jrm ?_
    refine jqsp 18 (fun g57 => ?_) fun g57 => ?_
    · refine jqs ?_
      refine jqs ?_
      refine jqs ?_
      refine jqs ?_
      refine jq jrpT ?_
      refine seq_nil ?_
      refine jcT ?_
      refine jcr ?_
      refine jq jrm ?_
      refine seq_nil ?_
      refine code_ret (jbr (jtr (jtr (jbr (jtr (jrt (hv := ?_)))))))
      have hm : vs.getD i VV.none ∈ vs := by
        rw [List.getD_eq_getElem?_getD, List.getElem?_eq_getElem (by omega)]
        exact List.getElem_mem _
      have hx : bigV (vs.getD i VV.none) = true := by unfold bigV; simp only [Bool.or_eq_true, decide_eq_true_eq]; omega
      have ha2 : vs.any bigV = true := List.any_eq_true.2 ⟨_, hm, hx⟩
      exact CEnt.bool (by unfold longM; rw [ha2, Bool.or_true])
    refine jq (jrfa 4 1 false) ?_
    refine jqo jrdo ?_
    refine jq jrls ?_
    refine jq jrc ?_
    refine jq jrpF ?_
    refine seq_nil ?_
    refine jcc (fun h57 => ?_) fun h57 => ?_
    · refine jcr ?_
      refine jq jrm ?_
      refine seq_nil ?_
      refine code_ret (jbr (jtr (jtr (jbr (jtr (jrt (hv := ?_)))))))
      have hm : vs.getD i VV.none ∈ vs := by
        rw [List.getD_eq_getElem?_getD, List.getElem?_eq_getElem (by omega)]
        exact List.getElem_mem _
      have hx : bigV (vs.getD i VV.none) = true := by unfold bigV; simp only [Bool.or_eq_true, decide_eq_true_eq]; omega
      have ha2 : vs.any bigV = true := List.any_eq_true.2 ⟨_, hm, hx⟩
      exact CEnt.bool (by unfold longM; rw [ha2, Bool.or_true])
    refine code_skip (jbn (jtn ?_))
    refine jcg ?_
    refine jq jra ?_
    refine jq jrm ?_
    refine seq_nil ?_
    refine jtn ?_
    refine jlend (i + 1) ?_ ?_ (h5 := ?_)
    · exact ⟨by omega, by rw [any_take (by omega), ha, Bool.false_or]; unfold bigV; simp only [Bool.or_eq_false_iff, decide_eq_false_iff_not]; omega⟩
    · show vs.length - (i + 1) < vs.length - i; omega
    · exact .cons (CEnt.int (by omega)) .nil
/-- a new writer of the reference's -/
def r0W : R8 := ⟨[], [], 0⟩
theorem newRW {G : Gh} {env : List (Nat × CV)} {b0 : Nat → CV} {H : List (Option Nat × Res)} (n i : Nat) {f : Nat → CV} (hi : H[i]? = some (some n, .blk 3 f)) (h0 : CEnt (f 0) (.c (.slice none 0 0))) (h1 : CEnt (f 1) (.c (.slice none 0 0))) (h2 : CEnt (f 2) (.c (.int .i64 0))) : EntS G ⟨env, b0, H⟩ ⟨env, b0, H.set i (rwO n r0W)⟩ := by
  have hil := (List.getElem?_eq_some_iff.1 hi).1
  have os0 : ∀ {j k : Nat}, CEnt (.c (.slice none 0 0)) (.os j none 0 0 k) := fun al St w v h => ⟨rfl, h⟩
  intro St a w hr
  obtain ⟨S1, s1, r1⟩ := ent_none (G := G) (s := ⟨env, b0, H⟩) (rowsF []) St a w hr
  obtain ⟨S4, s4, r4⟩ := closeRW (G := G) (env := env) (b0 := b0) (H := H ++ [(none, .blk 0 (rowsF []))]) n r0W i H.length (gr := none) (N := 0) (f := f) (F := rowsF [])
    (by rw [List.getElem?_append_left hil]; exact hi) (by simp) (by cases e : Nat.beq i H.length with | false => rfl | true => have := Nat.eq_of_beq_eq_true e; omega) (h0.trans (CEnt.nilS _ _)) (h1.trans os0) h2 (Nat.le_refl _) (fun a h => absurd h (Nat.not_lt_zero a)) S1 a w r1
  obtain ⟨S5, s5, r5⟩ := pick_ent (G := G) (H' := H.set i (rwO n r0W)) (List.range H.length) (range_nodup _) (by
    rw [pickL_range _ _ (by simp)]
    rw [take_set_out _ _ _ _ (by omega), List.take_set, List.take_left]) S4 a w r4
  exact ⟨S5, fun b hb => s5 b (s4 b (s1 b hb)), r5⟩
/-! ### errors' numbers -/
theorem bodyV_e (v : VV) : (bodyV v).2.2 ≤ 28 := by
  have h1 := asked_bd v.t v.n
  have h2 : (parseM v.t).2 ≤ 4 := by unfold parseM; repeat' split
                                     all_goals (dsimp only; omega)
  unfold bodyV
  repeat' split
  all_goals (dsimp only; first | omega | (unfold ofE; split <;> omega) | (unfold bitsE; split <;> omega))
theorem fail_k {e : Nat} {s : W8} (he : e ≤ 28) (h : s.k ≤ 28) : (failW e s).k ≤ 28 := by unfold failW; split <;> first | exact he | exact h
theorem put_k {t : Int} {b : List UInt8} {e : Nat} {s : W8} (he : e ≤ 28) (h : s.k ≤ 28) : (putW t b e s).k ≤ 28 := by
  unfold putW
  split
  · exact fail_k he h
  · split
    · exact putE_bd _ _
    · rw [addW_k]; exact h
theorem do_k (v : VV) {s : W8} (h : s.k ≤ 28) : (doW v s).k ≤ 28 := by
  unfold doW
  split
  · unfold openW; repeat' split
    all_goals first | exact h | exact Nat.le_of_ble_eq_true rfl
  · split
    · unfold closeV
      split
      · exact h
      · split
        · show 24 ≤ 28; decide
        · exact put_k (by decide) h
    · split
      · unfold rawW
        have hd : (depthM v.b).2 ≤ 28 := Nat.le_trans (depthM_bd v.b).2 (by decide)
        split
        · rw [addW_k]; exact h
        · exact fail_k hd h
      · exact put_k (bodyV_e v) h
theorem done_k {s : W8} (h : s.k ≤ 28) : doneK s ≤ 28 := by unfold doneK; repeat' split
                                                            all_goals omega
end Am
end Go.Proofs.YtjckfbpdieijeaaGreatDoor

/- Chapter 6: the reference's dates and moments, the example, the laws MomentsSeconds and MomentsAdd. -/
namespace Go.Proofs.YtjckfbpdieijeaaGreatDoor
set_option linter.unusedVariables false
namespace Am
variable {gs : List Nat} [OkG gs]
open Go.RowKit Cal
set_option linter.unusedVariables false
set_option maxRecDepth 100000

end Am
end Go.Proofs.YtjckfbpdieijeaaGreatDoor

/- Chapter 6, plain: what bodies are read as. -/
namespace Go.Proofs.YtjckfbpdieijeaaGreatDoor
namespace Am
open Go.RowKit Cal
set_option linter.unusedVariables false

def dg (b : List UInt8) (i : Nat) : Int := ((b.getD i 0).toNat : Int) - 48
def isDg (b : List UInt8) (i : Nat) : Prop := 48 ≤ ((b.getD i 0).toNat : Int) ∧ ((b.getD i 0).toNat : Int) ≤ 57
instance (b : List UInt8) (i : Nat) : Decidable (isDg b i) := by unfold isDg; infer_instance
def two (b : List UInt8) (j : Nat) : Int := 10 * dg b (2 * j) + dg b (2 * j + 1)
def getD6 (b : List UInt8) : D6 := ⟨100 * two b 0 + two b 1, two b 2, two b 3, two b 4, two b 5, two b 6⟩
def formP (b : List UInt8) : Prop := b.length = 15 ∧ ((b.getD 14 0).toNat : Int) = 90 ∧ ∀ i, i < 14 → isDg b i
instance (b : List UInt8) : Decidable (formP b) := by unfold formP; infer_instance
def getE (b : List UInt8) : Nat := if formP b then (if RightP (getD6 b) then 0 else 1) else 4
def getV (b : List UInt8) : Int := if formP b ∧ RightP (getD6 b) then secM (getD6 b) else 0

/-- the reference's text of a date -/
def texF (x : D6) : List Int := [x.y / 100, x.y % 100, x.m, x.d, x.h, x.mi, x.s]
def texL (x : D6) (i : Nat) : List UInt8 := ((texF x).take i).flatMap fun n => [figc n 10, figc n 1]
theorem texL_all {x : D6} (h1 : 0 ≤ x.y) (h2 : x.y ≤ 9999) : texL x 7 ++ [90] = bodyL x := by
  have e1 : figc (x.y / 100) 10 = figc x.y 1000 := by unfold figc; congr 2; omega
  have e2 : figc (x.y / 100) 1 = figc x.y 100 := by unfold figc; congr 2; omega
  have e3 : figc (x.y % 100) 10 = figc x.y 10 := by unfold figc; congr 2; omega
  have e4 : figc (x.y % 100) 1 = figc x.y 1 := by unfold figc; congr 2; omega
  simp [texL, texF, bodyL, figL, e1, e2, e3, e4]
theorem texL_succ {x : D6} {i : Nat} (h : i < (texF x).length) : texL x (i + 1) = texL x i ++ [figc ((texF x).getD i 0) 10, figc ((texF x).getD i 0) 1] := by
  have e : (texF x).take (i + 1) = (texF x).take i ++ [(texF x).getD i 0] := by
    rw [List.take_succ_eq_append_getElem h]
    simp [List.getD, h]
  unfold texL
  rw [e, List.flatMap_append]
  simp
theorem texL_len (x : D6) {i : Nat} (h : i ≤ 7) : (texL x i).length = 2 * i := by
  rcases i with _|_|_|_|_|_|_|_|i <;> simp [texL, texF] <;> omega
end Am
end Go.Proofs.YtjckfbpdieijeaaGreatDoor
