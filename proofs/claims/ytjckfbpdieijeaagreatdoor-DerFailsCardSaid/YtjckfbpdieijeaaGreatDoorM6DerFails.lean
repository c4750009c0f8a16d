/- What the law leans on, part 6: W08n, W08v, W08w, W08x, P08b, W08a, W08b, W08c, W08d, W08e, ErrN, W08y, L08d, Open, Open2 -/
import Derived.Test.YtjckfbpdieijeaaGreatDoorM5DerFails
import Derived.ChangeArms
import Derived.ChangeOld
import Derived.OpenShut

/- Chapter 8: the laws' own functions: alive, put. -/
namespace Go.Proofs.YtjckfbpdieijeaaGreatDoor
set_option linter.unusedVariables false
namespace Am
variable {gs : List Nat} [OkG gs]
open Go.RowKit Cal
set_option maxRecDepth 100000

def w0W : W8 := ⟨[], [], 0⟩
theorem take_set_out {α : Type} (l : List α) (n i : Nat) (x : α) (h : n ≤ i) : (l.set i x).take n = l.take n := by
  rw [List.take_set, List.set_eq_of_length_le]
  rw [List.length_take]; omega
/-- a new writer -/
theorem newW {G : Gh} {env : List (Nat × CV)} {b0 : Nat → CV} {H : List (Option Nat × Res)} (n i : Nat) {f : Nat → CV} (hi : H[i]? = some (some n, .blk 3 f)) (h0 : CEnt (f 0) (.c (.slice none 0 0))) (h1 : CEnt (f 1) (.c (.slice none 0 0))) (h2 : CEnt (f 2) (.err 0)) : EntS G ⟨env, b0, H⟩ ⟨env, b0, H.set i (wrO n w0W)⟩ := by
  have hil := (List.getElem?_eq_some_iff.1 hi).1
  have os0 : ∀ {j k : Nat}, CEnt (.c (.slice none 0 0)) (.os j none 0 0 k) := fun al St w v h => ⟨rfl, h⟩
  intro St a w hr
  obtain ⟨S1, s1, r1⟩ := ent_none (G := G) (s := ⟨env, b0, H⟩) (rowF 2 frF frD []) St a w hr
  obtain ⟨S2, s2, r2⟩ := ent_none (G := G) (s := ⟨env, b0, H ++ [(none, .blk 0 (rowF 2 frF frD []))]⟩) (byF []) S1 a w r1
  obtain ⟨S3, s3, r3⟩ := bag_new (G := G) (env := env) (b0 := b0) (H := H ++ [(none, .blk 0 (rowF 2 frF frD []))] ++ [(none, .blk 0 (byF []))]) S2 a w r2
  obtain ⟨S4, s4, r4⟩ := closeW (G := G) (env := env) (b0 := b0) (H := H ++ [(none, .blk 0 (rowF 2 frF frD []))] ++ [(none, .blk 0 (byF []))] ++ [bagE []]) n w0W [] i H.length (H.length + 1) (H.length + 2) rfl (go := none) (gd := none) (No := 0) (Nd := 0) (f := f) (Fo := rowF 2 frF frD []) (Fd := byF [])
    (by rw [List.append_assoc, List.append_assoc, List.getElem?_append_left hil]; exact hi) (by simp) (by simp [List.getElem?_append]) (by simp [List.getElem?_append]) (by simp; omega) (h0.trans os0) (h1.trans os0) h2 (Nat.le_refl _) (fun a h => absurd h (Nat.not_lt_zero a)) (Nat.le_refl _) (fun a h => absurd h (Nat.not_lt_zero a)) S3 a w r3
  obtain ⟨S5, s5, r5⟩ := pick_ent (G := G) (H' := H.set i (wrO n w0W)) (List.range H.length) (range_nodup _) (by
    rw [pickL_range _ _ (by simp)]
    simp only [List.append_assoc]
    rw [take_set_out _ _ _ _ (by omega), take_set_out _ _ _ _ (by omega), take_set_out _ _ _ _ (by omega), List.take_set, List.take_left]) S4 a w r4
  exact ⟨S5, fun b hb => s5 b (s4 b (s3 b (s2 b (s1 b hb)))), r5⟩
theorem ok0 : OkW w0W := ⟨by decide, fun _ h => (by cases h), by decide⟩
def w1W : W8 := ⟨[(48, [])], [], 0⟩
def w2W : W8 := ⟨[(48, [[2, 1, 5]])], [], 0⟩
def w3W : W8 := ⟨[], [48, 3, 2, 1, 5], 0⟩
theorem e1W : openW 48 w0W = w1W := rfl
theorem e2W : putW 2 (putN 5) 0 w1W = w2W := rfl
theorem e3W : closeV w2W = w3W := rfl
theorem ok1 : OkW w1W := ⟨by decide, fun x h => (by obtain rfl := List.mem_singleton.1 h; decide), by decide⟩
theorem ok2 : OkW w2W := ⟨by decide, fun x h => (by obtain rfl := List.mem_singleton.1 h; decide), by decide⟩
theorem ok3 : OkW w3W := ⟨by decide, fun _ h => (by cases h), by decide⟩
theorem alive08_ac : ACp gs Tryz.prog 8 [] (.c (.bool true)) := by
  refine ac_of 24 Tryz.func8 rfl rfl rfl (fun al w0 F0 St0 => ?_)
  refine jcr ?_
  refine jq jrm ?_
  refine seq_nil ?_
  refine jcr ?_
  refine jq (rd_build (n := 3) rfl zr30 pl30 rfl rfl) ?_
  refine jqe (jebx 3 fun p1 => ?_)
  refine jq jrm ?_
  refine seq_nil ?_
  refine code_knowG (know_op 5 rfl) fun hn => ?_
  obtain ⟨n, rfl⟩ := hn
  refine code_ent (newW n 0 rfl (CEnt.refl _) (CEnt.refl _) CEnt.nil) ?_
  dsimp only [List.set_cons_zero, List.set_cons_succ, List.cons_append, List.nil_append, List.length_cons, List.length_nil, Nat.zero_add, Nat.reduceAdd]
  refine jcr ?_
  refine jq jrm ?_
  refine jqm (jmcH 0 (openW_ac n w0W 48 ok0) ?_)
  rintro _ _ ⟨rfl, rfl⟩
  refine ⟨_, _, rfl, CEnt.refl _, ?_⟩
  refine seq_nil ?_
  rw [e1W]
  refine jcr ?_
  refine jq jrm ?_
  refine jqm (jmcH 0 (intW_ac n w1W 5 (by decide) ok1) ?_)
  rintro _ _ ⟨rfl, rfl⟩
  refine ⟨_, _, rfl, CEnt.refl _, ?_⟩
  refine seq_nil ?_
  rw [e2W]
  refine jcr ?_
  refine jq jrm ?_
  refine jqm (jmcH 0 (closeW_ac n w2W ok2) ?_)
  rintro _ _ ⟨rfl, rfl⟩
  refine ⟨_, _, rfl, CEnt.refl _, ?_⟩
  refine seq_nil ?_
  rw [e3W]
  refine jcr ?_
  refine jq jrm ?_
  refine jqm (jmcH 0 (doneW_ac n w3W ok3) ?_)
  rintro _ _ ⟨rfl, rfl⟩
  refine ⟨_, _, rfl, CEnt.refl _, ?_⟩
  refine jq jrm ?_
  refine jq jrx ?_
  refine jq jrx ?_
  refine jq jrm ?_
  refine jq jrm ?_
  refine seq_nil ?_
  rw [show doneK w3W = 0 from rfl, show doneB w3W = [48, 3, 2, 1, 5] from rfl]
  refine jcr ?_
  refine jq jrm ?_
  refine jq jre ?_
  refine jq jrm ?_
  refine jqsp 19 (fun g20 => ?_) fun g20 => ?_
  rotate_left
  · exfalso; simp at g20
  refine jq jrm ?_
  refine jq jrbs ?_
  refine jq jrcs ?_
  refine jq jrpT ?_
  refine jq jrm ?_
  refine seq_nil ?_
  refine code_ret (jrt (hv := ?_))
  exact CEnt.refl _
def valC (v : VV) : CV := .agg 5 (fl [.c (.int .i64 v.kind), .c (.int .i64 v.n), .c (.bool v.is), bsC v.b, strC v.t])
structure OkV (v : VV) : Prop where
  n : -9223372036854775808 ≤ v.n ∧ v.n ≤ 9223372036854775807
  b : v.b.length ≤ 1000000
  t : v.t.length ≤ 1000000
theorem doW_bad {v : VV} {s : W8} (h1 : v.kind ≠ 1) (h2 : v.kind ≠ 2) (h3 : v.kind ≠ 11) : doW v s = putW (bodyV v).1 (bodyV v).2.1 (bodyV v).2.2 s := by unfold doW; rw [if_neg h1, if_neg h2, if_neg h3]
set_option maxHeartbeats 1000000 in
theorem put08_ac [OkT gs] (n : Nat) (s : W8) (v : VV) (hs : OkW s) (hv : OkV v) : AC gs Tryz.prog 25 [wrO n s] [.op 0 (some n) 0, valC v] (fun r H' => r = .c (.tuple #[]) ∧ H' = [wrO n (doW v s)]) := by
  have D : ∀ {t b e}, bodyV v = (t, b, e) → v.kind ≠ 1 → v.kind ≠ 2 → v.kind ≠ 11 → doW v s = putW t b e s := fun h h1 h2 h3 => by rw [doW_bad h1 h2 h3, h]
  refine ac_of 70 Tryz.func25 rfl rfl rfl (fun al w0 F0 St0 => ?_)
  refine jcr ?_
  refine jqe (jebx 5 fun p1 => ?_)
  refine seq_nil ?_
  refine jcr ?_
  refine jq (jrfa 0 1 false) ?_
  refine jqo jrdo ?_
  refine seq_nil ?_
  refine code_block ?_
  refine jcr ?_
  refine jq jrc ?_
  refine jq jrm ?_
  refine seq_nil ?_
  refine jcc (fun h26 => ?_) fun h26 => ?_
  · refine jcg ?_
    refine jq jrm ?_
    refine jq (jrfa 1 1 false) ?_
    refine jqo jrdo ?_
    refine jqm (jmcH 0 (openW_ac n s v.n hs) ?_)
    rintro _ _ ⟨rfl, rfl⟩
    refine ⟨_, _, rfl, CEnt.refl _, ?_⟩
    refine seq_nil ?_
    refine jbn ?_
    rw [show doW v s = openW v.n s by unfold doW; rw [if_pos (by omega)]]
    exact end_own (.inr rfl) _ [_] [0] (by decide) rfl (res_0 rfl) ⟨rfl, rfl⟩
  refine jcr ?_
  refine jq jrc ?_
  refine jq jrm ?_
  refine seq_nil ?_
  refine jcc (fun h28 => ?_) fun h28 => ?_
  · refine jcg ?_
    refine jq jrm ?_
    refine jqm (jmcH 0 (closeW_ac n s hs) ?_)
    rintro _ _ ⟨rfl, rfl⟩
    refine ⟨_, _, rfl, CEnt.refl _, ?_⟩
    refine seq_nil ?_
    refine jbn ?_
    rw [show doW v s = closeV s by unfold doW; rw [if_neg (by omega), if_pos (by omega)]]
    exact end_own (.inr rfl) _ [_] [0] (by decide) rfl (res_0 rfl) ⟨rfl, rfl⟩
  refine jcr ?_
  refine jq jrc ?_
  refine jq jrm ?_
  refine seq_nil ?_
  refine jcc (fun h30 => ?_) fun h30 => ?_
  · refine jcg ?_
    refine jq jrm ?_
    refine jq (jrfa 1 1 false) ?_
    refine jqo jrdo ?_
    refine jqm (jmcH 0 (intW_ac n s v.n hv.n hs) ?_)
    rintro _ _ ⟨rfl, rfl⟩
    refine ⟨_, _, rfl, CEnt.refl _, ?_⟩
    refine seq_nil ?_
    refine jbn ?_
    rw [D (by unfold bodyV; rw [if_pos (by omega)]) (by omega) (by omega) (by omega)]
    exact end_own (.inr rfl) _ [_] [0] (by decide) rfl (res_0 rfl) ⟨rfl, rfl⟩
  refine jcr ?_
  refine jq jrc ?_
  refine jq jrm ?_
  refine seq_nil ?_
  refine jcc (fun h32 => ?_) fun h32 => ?_
  · refine jcg ?_
    refine jq jrm ?_
    refine jq (jrfa 1 1 false) ?_
    refine jqo jrdo ?_
    refine jqm (jmcH 0 (enumW_ac n s v.n hv.n hs) ?_)
    rintro _ _ ⟨rfl, rfl⟩
    refine ⟨_, _, rfl, CEnt.refl _, ?_⟩
    refine seq_nil ?_
    refine jbn ?_
    rw [D (by unfold bodyV; rw [if_neg (by omega), if_pos (by omega)]) (by omega) (by omega) (by omega)]
    exact end_own (.inr rfl) _ [_] [0] (by decide) rfl (res_0 rfl) ⟨rfl, rfl⟩
  refine jcr ?_
  refine jq jrc ?_
  refine jq jrm ?_
  refine seq_nil ?_
  refine jcc (fun h34 => ?_) fun h34 => ?_
  · refine jcg ?_
    refine jq jrm ?_
    refine jq (jrfa 2 1 false) ?_
    refine jqo jrdo ?_
    refine jqm (jmcH 0 (boolW_ac n s v.is hs) ?_)
    rintro _ _ ⟨rfl, rfl⟩
    refine ⟨_, _, rfl, CEnt.refl _, ?_⟩
    refine seq_nil ?_
    refine jbn ?_
    rw [D (by unfold bodyV; rw [if_neg (by omega), if_neg (by omega), if_pos (by omega)]) (by omega) (by omega) (by omega)]
    exact end_own (.inr rfl) _ [_] [0] (by decide) rfl (res_0 rfl) ⟨rfl, rfl⟩
  refine jcr ?_
  refine jq jrc ?_
  refine jq jrm ?_
  refine seq_nil ?_
  refine jcc (fun h36 => ?_) fun h36 => ?_
  · refine jcg ?_
    refine jq jrm ?_
    refine jq (jrfa 3 1 false) ?_
    refine jqo jrdo ?_
    refine jqm (jmcH 0 (octetsW_ac n s v.b hv.b hs) ?_)
    rintro _ _ ⟨rfl, rfl⟩
    refine ⟨_, _, rfl, CEnt.refl _, ?_⟩
    refine seq_nil ?_
    refine jbn ?_
    rw [D (by unfold bodyV; rw [if_neg (by omega), if_neg (by omega), if_neg (by omega), if_pos (by omega)]) (by omega) (by omega) (by omega)]
    exact end_own (.inr rfl) _ [_] [0] (by decide) rfl (res_0 rfl) ⟨rfl, rfl⟩
  refine jcr ?_
  refine jq jrc ?_
  refine jq jrm ?_
  refine seq_nil ?_
  refine jcc (fun h38 => ?_) fun h38 => ?_
  · refine jcg ?_
    refine jq jrm ?_
    refine jq (jrfa 4 1 false) ?_
    refine jqo jrdo ?_
    refine jq (jrfa 1 1 false) ?_
    refine jqo jrdo ?_
    refine jqm (jmcH 0 (textW_ac n s v.t v.n hv.t hs) ?_)
    rintro _ _ ⟨rfl, rfl⟩
    refine ⟨_, _, rfl, CEnt.refl _, ?_⟩
    refine seq_nil ?_
    refine jbn ?_
    rw [D (by unfold bodyV; rw [if_neg (by omega), if_neg (by omega), if_neg (by omega), if_neg (by omega), if_pos (by omega)]) (by omega) (by omega) (by omega)]
    exact end_own (.inr rfl) _ [_] [0] (by decide) rfl (res_0 rfl) ⟨rfl, rfl⟩
  refine jcr ?_
  refine jq jrc ?_
  refine jq jrm ?_
  refine seq_nil ?_
  refine jcc (fun h40 => ?_) fun h40 => ?_
  · refine jcg ?_
    refine jq jrm ?_
    refine jq (jrfa 4 1 false) ?_
    refine jqo jrdo ?_
    refine jqm (jmcH 0 (oidW_ac n s v.t hv.t hs) ?_)
    rintro _ _ ⟨rfl, rfl⟩
    refine ⟨_, _, rfl, CEnt.refl _, ?_⟩
    refine seq_nil ?_
    refine jbn ?_
    rw [D (by unfold bodyV; rw [if_neg (by omega), if_neg (by omega), if_neg (by omega), if_neg (by omega), if_neg (by omega), if_pos (by omega)]) (by omega) (by omega) (by omega)]
    exact end_own (.inr rfl) _ [_] [0] (by decide) rfl (res_0 rfl) ⟨rfl, rfl⟩
  refine jcr ?_
  refine jq jrc ?_
  refine jq jrm ?_
  refine seq_nil ?_
  refine jcc (fun h42 => ?_) fun h42 => ?_
  · refine jcg ?_
    refine jq jrm ?_
    refine jq (jrfa 1 1 false) ?_
    refine jqo jrdo ?_
    refine jqm (jmcH 0 (momentW_ac n s v.n hs) ?_)
    rintro _ _ ⟨rfl, rfl⟩
    refine ⟨_, _, rfl, CEnt.refl _, ?_⟩
    refine seq_nil ?_
    refine jbn ?_
    rw [D (by unfold bodyV; rw [if_neg (by omega), if_neg (by omega), if_neg (by omega), if_neg (by omega), if_neg (by omega), if_neg (by omega), if_pos (by omega)]) (by omega) (by omega) (by omega)]
    exact end_own (.inr rfl) _ [_] [0] (by decide) rfl (res_0 rfl) ⟨rfl, rfl⟩
  refine jcr ?_
  refine jq jrc ?_
  refine jq jrm ?_
  refine seq_nil ?_
  refine jcc (fun h44 => ?_) fun h44 => ?_
  · refine jcg ?_
    refine jq jrm ?_
    refine jq (jrfa 3 1 false) ?_
    refine jqo jrdo ?_
    refine jqm (jmcH 0 (rawW_ac n s v.b hv.b hs) ?_)
    rintro _ _ ⟨rfl, rfl⟩
    refine ⟨_, _, rfl, CEnt.refl _, ?_⟩
    refine seq_nil ?_
    refine jbn ?_
    rw [show doW v s = rawW v.b s by unfold doW; rw [if_neg (by omega), if_neg (by omega), if_pos (by omega)]]
    exact end_own (.inr rfl) _ [_] [0] (by decide) rfl (res_0 rfl) ⟨rfl, rfl⟩
  refine jcg ?_
  refine jq jrm ?_
  refine jq (jrfa 1 1 false) ?_
  refine jqo jrdo ?_
  refine jqm (jmcH 0 (flagsW_ac n s v.n hs) ?_)
  rintro _ _ ⟨rfl, rfl⟩
  refine ⟨_, _, rfl, CEnt.refl _, ?_⟩
  refine seq_nil ?_
  refine jbn ?_
  rw [D (by unfold bodyV; rw [if_neg (by omega), if_neg (by omega), if_neg (by omega), if_neg (by omega), if_neg (by omega), if_neg (by omega), if_neg (by omega)]) (by omega) (by omega) (by omega)]
  exact end_own (.inr rfl) _ [_] [0] (by decide) rfl (res_0 rfl) ⟨rfl, rfl⟩
end Am
end Go.Proofs.YtjckfbpdieijeaaGreatDoor

/- Chapter 8: the reference's writer: put, a value's body. -/
namespace Go.Proofs.YtjckfbpdieijeaaGreatDoor
set_option linter.unusedVariables false
namespace Am
variable {gs : List Nat} [OkG gs]
open Go.RowKit Cal
set_option maxRecDepth 100000

theorem rput08_ac {gs : List Nat} (n : Nat) (s : R8) (tag : Int) (b : List UInt8) (hs : OkR s) (ht : 0 ≤ tag ∧ tag < 256) (hb : b.length ≤ 1000000) : AC gs Tryz.prog 49 [rwO n s] [.op 0 (some n) 0, .c (.int .i64 tag), bsC b] (fun r H' => r = .c (.tuple #[]) ∧ H' = [rwO n (rputS tag b s)]) := by
  refine ac_of 17 Tryz.func49 rfl rfl rfl (fun al w0 F0 St0 => ?_)
  refine jcs ?_
  refine jcr ?_
  refine jq jrm ?_
  refine jq jrl ?_
  refine jq jrc ?_
  refine seq_nil ?_
  refine jcc (fun h64 => ?_) fun h64 => ?_
  · refine code_openRW 0 rfl fun gr => ?_
    refine jcr ?_
    refine jq jrm ?_
    refine jq jrnc ?_
    refine jq (jrfa 2 1 false) ?_
    refine jqm (jmstF 1 (rwB ⟨s.tags, s.rows, 3⟩ 1 gr) ?_ ?_)
    · exact (fun j hj => by rcases j with _ | _ | _ | j <;> exact CEnt.refl _)
    refine seq_nil ?_
    refine code_ret (jtr ?_)
    have hP : rputS tag b s = ⟨s.tags, s.rows, 3⟩ := by unfold rputS; rw [if_pos (by omega)]
    rw [hP]
    exact end_closeRW (.inl rfl) n ⟨s.tags, s.rows, 3⟩ 1 (res_0 rfl) (CEnt.refl _) rfl rfl rfl (by exact CEnt.refl _) (by exact CEnt.osI rfl) (by exact CEnt.refl _) (Nat.le_refl _) (fun _ _ => by exact CEnt.refl _)
  refine code_skip (jtn ?_)
  refine jcg ?_
  refine jq jrm ?_
  refine jq jrm ?_
  refine jq jrm ?_
  refine jqe (jecP (rput_ac tag b ht (by omega)) ?_)
  refine jqm (jmcH 0 (radd08_ac n s (putL tag b) hs) ?_)
  rintro _ _ ⟨rfl, rfl⟩
  refine ⟨_, _, rfl, CEnt.refl _, ?_⟩
  refine seq_nil ?_
  have hP : rputS tag b s = raddS (putL tag b) s := by unfold rputS; rw [if_neg (by omega)]
  rw [hP]
  exact end_own (.inr rfl) _ [_] [0] (by decide) rfl (res_0 rfl) ⟨rfl, rfl⟩
def BodyQ (v : VV) : CV → List (Option Nat × Res) → Prop := fun r H' => (∃ b, r = .tup 3 (fl [.c (.int .i64 (bodyV v).1), bsC b, .c (.int .i64 ((bodyV v).2.2 : Nat))]) ∧ ((bodyV v).2.2 = 0 → b = (bodyV v).2.1)) ∧ H' = []
theorem bodyQ {v : VV} {t : Int} {b b' : List UInt8} {e : Nat} (h : bodyV v = (t, b, e)) (hb : e = 0 → b' = b) : BodyQ v (.tup 3 (fl [.c (.int .i64 t), bsC b', .c (.int .i64 (e : Nat))])) [] := by
  refine ⟨⟨b', by rw [h], fun h0 => by rw [h] at h0 ⊢; exact hb h0⟩, rfl⟩
set_option maxHeartbeats 1000000 in
theorem rbody08_ac {gs : List Nat} (v : VV) (hv : OkV v) : AC gs Tryz.prog 52 [] [valC v] (BodyQ v) := by
  have hvt := hv.t
  have hvn := hv.n
  refine ac_of 77 Tryz.func52 rfl rfl rfl (fun al w0 F0 St0 => ?_)
  refine jcr ?_
  refine jqe (jebx 5 fun p1 => ?_)
  refine jq jrm ?_
  refine jq jrm ?_
  refine jq jrm ?_
  refine seq_nil ?_
  refine jcs ?_
  refine jcr ?_
  refine jq (jrfa 0 1 false) ?_
  refine jqo jrdo ?_
  refine seq_nil ?_
  refine code_block ?_
  refine jcr ?_
  refine jq jrc ?_
  refine jq jrm ?_
  refine seq_nil ?_
  refine jcc (fun h31 => ?_) fun h31 => ?_
  · refine jcr ?_
    refine jq (jrfa 1 1 false) ?_
    refine jqo jrdo ?_
    refine jqe (jecP (rput04_ac v.n hv.n.1 hv.n.2) ?_)
    refine jq jrm ?_
    refine jq jrm ?_
    refine jq jrm ?_
    refine seq_nil ?_
    refine code_ret (jbr (jtr ?_))
    exact end_ownV (.inl rfl) [] (by decide) rfl (res_3 rfl javt javt javt) (CEnt.refl _) (bodyQ (by unfold bodyV; rw [if_pos (by omega)]) (fun _ => rfl))
  refine jcr ?_
  refine jq jrc ?_
  refine jq jrm ?_
  refine seq_nil ?_
  refine jcc (fun h33 => ?_) fun h33 => ?_
  · refine jcr ?_
    refine jq (jrfa 1 1 false) ?_
    refine jqo jrdo ?_
    refine jqe (jecP (rput04_ac v.n hv.n.1 hv.n.2) ?_)
    refine jq jrm ?_
    refine jq jrm ?_
    refine jq jrm ?_
    refine seq_nil ?_
    refine code_ret (jbr (jtr ?_))
    exact end_ownV (.inl rfl) [] (by decide) rfl (res_3 rfl javt javt javt) (CEnt.refl _) (bodyQ (by unfold bodyV; rw [if_neg (by omega), if_pos (by omega)]) (fun _ => rfl))
  refine jcr ?_
  refine jq jrc ?_
  refine jq jrm ?_
  refine seq_nil ?_
  refine jcc (fun h35 => ?_) fun h35 => ?_
  · refine jcs ?_
    refine jcr ?_
    refine jq (jrfa 2 1 false) ?_
    refine jqo jrdo ?_
    refine seq_nil ?_
    refine jcc (fun h36 => ?_) fun h36 => ?_
    · refine jcr ?_
      refine jqe (jebl 1 1 zr5 fun p2 => ?_)
      refine jq jrm ?_
      refine jq jrm ?_
      refine jq jrm ?_
      refine seq_nil ?_
      refine code_ent (freeze 1 rfl) ?_
      refine code_ent (thawBL 3 [255] rfl rfl rfl rfl (.cons (CEnt.refl _) .nil)) ?_
      refine code_ret (jtr (jbr (jtr ?_)))
      exact end_ownV (.inl rfl) [] (by decide) rfl (res_3 rfl javt javt javt) (CEnt.refl _) (bodyQ (b' := [255]) (by unfold bodyV; rw [if_neg (by omega), if_neg (by omega), if_pos (by omega)]) (fun _ => by rw [if_pos (by simpa using h36)]))
    refine code_skip (jtn ?_)
    refine jcr ?_
    refine jqe (jebl 1 1 zr5 fun p2 => ?_)
    refine jq jrm ?_
    refine jq jrm ?_
    refine jq jrm ?_
    refine seq_nil ?_
    refine code_ent (freeze 1 rfl) ?_
    refine code_ent (thawBL 3 [0] rfl rfl rfl rfl (.cons (CEnt.refl _) .nil)) ?_
    refine code_ret (jbr (jtr ?_))
    exact end_ownV (.inl rfl) [] (by decide) rfl (res_3 rfl javt javt javt) (CEnt.refl _) (bodyQ (b' := [0]) (by unfold bodyV; rw [if_neg (by omega), if_neg (by omega), if_pos (by omega)]) (fun _ => by rw [if_neg (by simpa using h36)]))
  refine jcr ?_
  refine jq jrc ?_
  refine jq jrm ?_
  refine seq_nil ?_
  refine jcc (fun h40 => ?_) fun h40 => ?_
  · refine jcs ?_
    refine jcd (.rd 0 (.rd 1 (.rd 2 (.rd 3 (.rd 4 .done))))) ?_
    refine jyq (jrfa 3 1 false) ?_
    refine jyo jrdo ?_
    refine jyq jrm ?_
    refine jyq jrm ?_
    refine jyq jrm ?_
    refine jyd ?_
    refine jtn ?_
    refine code_ret (jbr (jtr ?_))
    exact end_ownV (.inl rfl) [] (by decide) rfl (res_3 rfl javt javt javt) (CEnt.refl _) (bodyQ (by unfold bodyV; rw [if_neg (by omega), if_neg (by omega), if_neg (by omega), if_pos (by omega)]) (fun _ => rfl))
  refine jcr ?_
  refine jq jrc ?_
  refine jq jrm ?_
  refine seq_nil ?_
  refine jcc (fun h42 => ?_) fun h42 => ?_
  · refine jcs ?_
    refine jcd (.rd 0 (.rd 1 (.rd 3 (.rd 4 (.rd 5 (.rd 6 (.two 2 (.one 7 (.rd 8 (.rd 9 (.rd 10 .done)))) 7 (.rd 8 (.one 2 (.rd 9 (.rd 10 .done))))))))))) ?_
    refine jyq (jrfa 4 1 false) ?_
    refine jyo jrdo ?_
    refine jyq (jrfa 4 1 false) ?_
    refine jyo jrdo ?_
    refine jyq (jrfa 1 1 false) ?_
    refine jyo jrdo ?_
    refine jytwo ?_ ?_
    · refine jye (jecv ?_)
      refine jye (jecP (rasked_ac v.t v.n (by omega)) ?_)
      refine jyq jrm ?_
      refine jyq jrm ?_
      refine jyq jrm ?_
      refine jyd ?_
      refine jtn ?_
      refine code_ret (jbr (jtr ?_))
      exact end_ownV (.inl rfl) [] (by decide) rfl (res_3 rfl javt javt javt) (CEnt.refl _) (bodyQ (b' := v.t) (by unfold bodyV; rw [if_neg (by omega), if_neg (by omega), if_neg (by omega), if_neg (by omega), if_pos (by omega)]) (fun h => by rw [if_pos h]))
    · refine jye (jecP (rasked_ac v.t v.n (by omega)) ?_)
      refine jyq jrm ?_
      refine jye (jecv ?_)
      refine jyq jrm ?_
      refine jyq jrm ?_
      refine jyd ?_
      refine jtn ?_
      refine code_ret (jbr (jtr ?_))
      exact end_ownV (.inl rfl) [] (by decide) rfl (res_3 rfl javt javt javt) (CEnt.refl _) (bodyQ (b' := v.t) (by unfold bodyV; rw [if_neg (by omega), if_neg (by omega), if_neg (by omega), if_neg (by omega), if_pos (by omega)]) (fun h => by rw [if_pos h]))
  refine jcr ?_
  refine jq jrc ?_
  refine jq jrm ?_
  refine seq_nil ?_
  refine jcc (fun h44 => ?_) fun h44 => ?_
  · refine jcr ?_
    refine jq (jrfa 4 1 false) ?_
    refine jqo jrdo ?_
    refine jqe (jecP (rparse_ac v.t (by omega)) ?_)
    refine jq jrm ?_
    refine jq jrx ?_
    refine jq jrx ?_
    refine jq jrm ?_
    refine jq jrm ?_
    refine seq_nil ?_
    refine jcs ?_
    refine jcr ?_
    refine jq jrm ?_
    refine jq jrc ?_
    refine seq_nil ?_
    refine jcc (fun h46 => ?_) fun h46 => ?_
    · refine jcr ?_
      refine jq jrm ?_
      refine jq jrm ?_
      refine jq jrm ?_
      refine jq jrm ?_
      refine seq_nil ?_
      refine code_ret (jtr (jbr (jtr ?_)))
      exact end_ownV (.inl rfl) [] (by decide) rfl (res_3 rfl javt javt javt) (CEnt.tup3 (CEnt.refl _) CEnt.nilB (CEnt.refl _)) (bodyQ (by unfold bodyV; rw [if_neg (by omega), if_neg (by omega), if_neg (by omega), if_neg (by omega), if_neg (by omega), if_pos (by omega)]) (fun h => by omega))
    refine code_skip (jtn ?_)
    have hp0 : (parseM v.t).2 = 0 := by omega
    refine jcr ?_
    refine jq jrm ?_
    refine jqe (jecP (rputO_ac (parseM v.t).1 (parse_ok hp0)) ?_)
    refine jq jrm ?_
    refine jq jrm ?_
    refine jq jrm ?_
    refine seq_nil ?_
    refine code_ret (jbr (jtr ?_))
    exact end_ownV (.inl rfl) [] (by decide) rfl (res_3 rfl javt javt javt) (CEnt.refl _) (bodyQ (e := 0) (by unfold bodyV; rw [if_neg (by omega), if_neg (by omega), if_neg (by omega), if_neg (by omega), if_neg (by omega), if_pos (by omega), hp0]) (fun h => by unfold putM; rw [if_pos hp0]))
  refine jcr ?_
  refine jq jrc ?_
  refine jq jrm ?_
  refine seq_nil ?_
  refine jcc (fun h50 => ?_) fun h50 => ?_
  rotate_left
  · refine code_skip (jbn (jtn ?_))
    refine jcs ?_
    refine jcr ?_
    refine jq (jrfa 1 1 false) ?_
    refine jqo jrdo ?_
    refine jq jrc ?_
    refine jq jrm ?_
    refine jqsp 69 (fun g56 => ?_) fun g56 => ?_
    · refine jqs ?_
      refine jqs ?_
      refine jqs ?_
      refine jq jrpT ?_
      refine seq_nil ?_
      refine jcT ?_
      refine jcr ?_
      refine jq jrm ?_
      refine jq jrm ?_
      refine jq jrm ?_
      refine seq_nil ?_
      refine code_ret (jtr ?_)
      exact end_ownV (.inl rfl) [] (by decide) rfl (res_3 rfl javt javt javt) (CEnt.tup3 (CEnt.refl _) CEnt.nilB (CEnt.refl _)) (bodyQ (e := 1) (by unfold bodyV; rw [if_neg (by omega), if_neg (by omega), if_neg (by omega), if_neg (by omega), if_neg (by omega), if_neg (by omega), if_neg (by omega)]; unfold bitsE; rw [if_pos (by omega)]) (fun h => by cases h))
    refine jq (jrfa 1 1 false) ?_
    refine jqo jrdo ?_
    refine jq jrc ?_
    refine jq jrpF ?_
    refine seq_nil ?_
    refine jcc (fun h56 => ?_) fun h56 => ?_
    · refine jcr ?_
      refine jq jrm ?_
      refine jq jrm ?_
      refine jq jrm ?_
      refine seq_nil ?_
      refine code_ret (jtr ?_)
      exact end_ownV (.inl rfl) [] (by decide) rfl (res_3 rfl javt javt javt) (CEnt.tup3 (CEnt.refl _) CEnt.nilB (CEnt.refl _)) (bodyQ (e := 1) (by unfold bodyV; rw [if_neg (by omega), if_neg (by omega), if_neg (by omega), if_neg (by omega), if_neg (by omega), if_neg (by omega), if_neg (by omega)]; unfold bitsE; rw [if_pos (by omega)]) (fun h => by cases h))
    refine code_skip (jtn ?_)
    refine jcr ?_
    refine jq (jrfa 1 1 false) ?_
    refine jqo jrdo ?_
    refine jqe (jecP (rflags_ac v.n.toNat (by omega)) ?_ (ho := rfl) (he := (.cons (se rfl (CEnt.int (by omega))) .nil)))
    refine jq jrm ?_
    refine jq jrm ?_
    refine jq jrm ?_
    refine seq_nil ?_
    refine code_ret ?_
    exact end_ownV (.inl rfl) [] (by decide) rfl (res_3 rfl javt javt javt) (CEnt.refl _) (bodyQ (e := 0) (by unfold bodyV; rw [if_neg (by omega), if_neg (by omega), if_neg (by omega), if_neg (by omega), if_neg (by omega), if_neg (by omega), if_neg (by omega)]; unfold bitsE; rw [if_neg (by omega)]) (fun h => by unfold bitsL; rw [if_neg (by omega)]))
  refine jcs ?_
  refine jcr ?_
  refine jq (jrfa 1 1 false) ?_
  refine jqo jrdo ?_
  refine jq jrc ?_
  refine jq jrm ?_
  refine jqsp 57 (fun g51 => ?_) fun g51 => ?_
  · refine jqs ?_
    refine jqs ?_
    refine jqs ?_
    refine jq jrpT ?_
    refine seq_nil ?_
    refine jcT ?_
    refine jcr ?_
    refine jq jrm ?_
    refine jq jrm ?_
    refine jq jrm ?_
    refine seq_nil ?_
    refine code_ret (jtr (jbr (jtr ?_)))
    exact end_ownV (.inl rfl) [] (by decide) rfl (res_3 rfl javt javt javt) (CEnt.tup3 (CEnt.refl _) CEnt.nilB (CEnt.refl _)) (bodyQ (e := 1) (by unfold bodyV; rw [if_neg (by omega), if_neg (by omega), if_neg (by omega), if_neg (by omega), if_neg (by omega), if_neg (by omega), if_pos (by omega)]; unfold ofE; rw [if_neg (by unfold inT; omega), if_neg (by unfold inT; omega)]) (fun h => by cases h))
  refine jq (jrfa 1 1 false) ?_
  refine jqo jrdo ?_
  refine jq jrc ?_
  refine jq jrpF ?_
  refine seq_nil ?_
  refine jcc (fun h51 => ?_) fun h51 => ?_
  · refine jcr ?_
    refine jq jrm ?_
    refine jq jrm ?_
    refine jq jrm ?_
    refine seq_nil ?_
    refine code_ret (jtr (jbr (jtr ?_)))
    exact end_ownV (.inl rfl) [] (by decide) rfl (res_3 rfl javt javt javt) (CEnt.tup3 (CEnt.refl _) CEnt.nilB (CEnt.refl _)) (bodyQ (e := 1) (by unfold bodyV; rw [if_neg (by omega), if_neg (by omega), if_neg (by omega), if_neg (by omega), if_neg (by omega), if_neg (by omega), if_pos (by omega)]; unfold ofE; rw [if_neg (by unfold inT; omega), if_neg (by unfold inT; omega)]) (fun h => by cases h))
  refine code_skip (jtn ?_)
  have hin : inT v.n := ⟨by omega, by omega⟩
  refine jcr ?_
  refine jq (jrfa 1 1 false) ?_
  refine jqo jrdo ?_
  refine jqe (jecP (rof6_ac v.n hin) ?_)
  refine jqe (jecP (rtext6_ac (ofR6 v.n) (ofR_right hin).1) ?_)
  refine jq jrm ?_
  refine jq jrm ?_
  refine jq jrm ?_
  refine seq_nil ?_
  refine code_ret (jbr (jtr ?_))
  exact end_ownV (.inl rfl) [] (by decide) rfl (res_3 rfl javt javt javt) (CEnt.refl _) (bodyQ (e := 0) (by unfold bodyV; rw [if_neg (by omega), if_neg (by omega), if_neg (by omega), if_neg (by omega), if_neg (by omega), if_neg (by omega), if_pos (by omega)]; unfold ofE; rw [if_pos hin, if_pos hin]) (fun h => by unfold ofM; rw [if_pos hin]))
end Am
end Go.Proofs.YtjckfbpdieijeaaGreatDoor

/- Chapter 8: the reference's writer: Done. -/
namespace Go.Proofs.YtjckfbpdieijeaaGreatDoor
set_option linter.unusedVariables false
namespace Am
variable {gs : List Nat} [OkG gs]
open Go.RowKit Cal
set_option maxRecDepth 100000

structure OkRD (s : R8) : Prop where
  ok : OkR s
  sum : ∀ j, sumL (s.rows.getD j []) ≤ 1000000
  tag : ∀ x ∈ s.tags, 0 ≤ x ∧ x < 256
  lt : s.tags.length ≠ 0 → s.tags.length < s.rows.length
theorem rdone08_ac {gs : List Nat} (n : Nat) (s : R8) (hs : OkRD s) : AC gs Tryz.prog 15 [rwO n s] [.op 0 (some n) 0] (fun r H' => r = .tup 2 (fl [bsC (rdoneB s), .c (.int .i64 (rdoneE s : Nat))]) ∧ H' = [rwO n s]) := by
  have hk0 := okR_at hs.ok 0
  have hs0 := hs.sum 0
  have bad : ∀ {e}, rdoneE s = e → e ≠ 0 → rdoneB s = [] := fun h h0 => by unfold rdoneB; rw [h, if_neg h0]
  refine ac_of 48 Tryz.func15 rfl rfl rfl (fun al w0 F0 St0 => ?_)
  refine jcr ?_
  refine jq jrm ?_
  refine jq jrm ?_
  refine seq_nil ?_
  refine jcs ?_
  refine code_openRW 0 rfl fun gr => ?_
  refine jcr ?_
  refine jq jrm ?_
  refine jq jrnc ?_
  refine jq (jrfa 2 1 false) ?_
  refine jqo jrdo ?_
  refine jq jrc ?_
  refine seq_nil ?_
  refine jcc (fun h133 => ?_) fun h133 => ?_
  · refine jcs ?_
    refine jcd (.rd 0 (.rd 1 (.rd 2 (.rd 3 (.rd 4 (.rd 5 .done)))))) ?_
    refine jyq jrm ?_
    refine jyq jrnc ?_
    refine jyq (jrfa 2 1 false) ?_
    refine jyo jrdo ?_
    refine jyq jrm ?_
    refine jyq jrm ?_
    refine jyd ?_
    refine jtn ?_
    refine code_ret (jtr ?_)
    have e : rdoneE s = s.e := by unfold rdoneE; rw [if_pos (by omega)]
    exact end_closeRW (.inl rfl) n s 1 (res_2 rfl javt javt) (CEnt.tup2 (by rw [bad e (by omega)]; exact CEnt.nilB) (CEnt.int (by rw [e]))) rfl rfl rfl (by exact CEnt.refl _) (by exact CEnt.osI rfl) (by exact CEnt.refl _) (Nat.le_refl _) (fun _ _ => by exact CEnt.refl _)
  refine code_skip (jtn ?_)
  refine jcs ?_
  refine jcr ?_
  refine jq jrm ?_
  refine jq jrnc ?_
  refine jq (jrfa 0 1 false) ?_
  refine jqo jrdo ?_
  refine jq jrl ?_
  refine jq jrc ?_
  refine seq_nil ?_
  refine jcc (fun h136 => ?_) fun h136 => ?_
  · refine jcr ?_
    refine jq jrm ?_
    refine jq jrm ?_
    refine seq_nil ?_
    refine code_ret (jtr ?_)
    have e : rdoneE s = 24 := by unfold rdoneE; rw [if_neg (by omega), if_pos (by omega)]
    exact end_closeRW (.inl rfl) n s 1 (res_2 rfl javt javt) (CEnt.tup2 (by rw [bad e (by omega)]; exact CEnt.nilB) (CEnt.int (by rw [e]; rfl))) rfl rfl rfl (by exact CEnt.refl _) (by exact CEnt.osI rfl) (by exact CEnt.refl _) (Nat.le_refl _) (fun _ _ => by exact CEnt.refl _)
  refine code_skip (jtn ?_)
  refine jcr ?_
  refine jqe (jebl 0 1 zr5 fun p1 => ?_)
  refine jq jrm ?_
  refine seq_nil ?_
  refine jcs ?_
  refine jcr ?_
  refine jq jrm ?_
  refine jq jrnc ?_
  refine jq (jrfa 1 1 false) ?_
  refine jqo jrdo ?_
  refine jq jrl ?_
  refine jq jrc ?_
  refine seq_nil ?_
  refine jcc (fun h140 => ?_) fun h140 => ?_
  rotate_left
  · refine code_skip (jtn ?_)
    refine jcs ?_
    first
      | (have hiE : i = (s.rows.getD 0 []).length := by omega
         subst hiE
         dsimp only
         rw [List.take_length] at *
         have hfl := flat_len (s.rows.getD 0 []))
      | (have h00 : s.rows.getD 0 [] = [] := by rw [List.getD_eq_getElem?_getD, List.getElem?_eq_none (by omega)]; rfl
         have hfl : ((s.rows.getD 0 []).flatten).length = 0 := by rw [h00]; rfl)
    refine jcr ?_
    refine jq jrm ?_
    refine jq jrl ?_
    refine jq jrc ?_
    refine seq_nil ?_
    refine jcc (fun h145 => ?_) fun h145 => ?_
    · refine jcr ?_
      refine jq jrm ?_
      refine jq jrm ?_
      refine seq_nil ?_
      refine code_ret (jtr ?_)
      first
        | (exfalso; simp at h145; done)
        | (have e : rdoneE s = 3 := by unfold rdoneE; rw [if_neg (by omega), if_neg (by omega), if_pos (by omega)]
           exact end_closeRW (.inl rfl) n s 1 (res_2 rfl javt javt) (CEnt.tup2 (by rw [bad e (by omega)]; exact CEnt.nilB) (CEnt.int (by rw [e]; rfl))) rfl rfl rfl (by exact CEnt.refl _) (by exact CEnt.osI rfl) (by exact CEnt.refl _) (Nat.le_refl _) (fun _ _ => by exact CEnt.refl _))
    refine code_skip (jtn ?_)
    refine jcr ?_
    refine jq jrm ?_
    refine jq jrm ?_
    refine jq jrm ?_
    refine seq_nil ?_
    refine code_ent (freeze 2 rfl) ?_
    first
      | refine code_ent (thawB 2 ((s.rows.getD 0 []).flatten) rfl rfl rfl rfl) ?_
      | refine code_ent (thawBL 2 [] rfl rfl rfl rfl .nil) ?_
    refine code_ret ?_
    have e : rdoneE s = 0 := by unfold rdoneE; rw [if_neg (by omega), if_neg (by omega), if_neg (by omega)]
    exact end_closeRW (.inl rfl) n s 1 (res_2 rfl javt javt) (CEnt.tup2 (CEnt.bs (by unfold rdoneB; rw [if_pos e]; (rw [h00]; rfl))) (CEnt.int (by rw [e]; rfl))) rfl rfl rfl (by exact CEnt.refl _) (by exact CEnt.osI rfl) (by exact CEnt.refl _) (Nat.le_refl _) (fun _ _ => by exact CEnt.refl _)
  refine jcr ?_
  refine jq jrm ?_
  refine jq jrnc ?_
  refine jq (jrfa 1 1 false) ?_
  refine jqo jrdo ?_
  refine jq (jri (i := 0)) ?_
  refine jqo jrdo ?_
  refine jq jrl ?_
  refine jq jrm ?_
  refine seq_nil ?_
  refine code_block ?_
  refine l_loop (α := Nat × Option Nat) [4, 6, 36, 37, 38, 39, 40, 41, 42, 43] (fun (i, g) => [(4, .os 2 g 0 (((s.rows.getD 0 []).take i).flatten).length 1), (36, .c (.int .i64 (i : Nat)))]) (fun (i, g) => [(some n, .blk 3 (rwB s 1 gr)), (gr, .blk s.rows.length (rowsF s.rows)), (g, .blk (((s.rows.getD 0 []).take i).flatten).length (byF ((s.rows.getD 0 []).take i).flatten))]) (fun i => i.1 ≤ (s.rows.getD 0 []).length) (fun i => (s.rows.getD 0 []).length - i.1) ((0, p1)) ?_ (fun _ => rfl) ?_ ?_ ?_
  · exact Nat.zero_le _
  · exact .cons (CEnt.osI rfl) (.cons (CEnt.refl _) .nil)
  · exact .same (.same (.blk rfl (fun j hj => absurd hj (Nat.not_lt_zero j)) .nil))
  · rintro ⟨i, g⟩ (hi : i ≤ (s.rows.getD 0 []).length)
    refine jcr ?_
    refine jq jrc ?_
    refine seq_nil ?_
    refine jcs ?_
    refine jcc (fun h141 => ?_) fun h141 => ?_
    · refine code_skip (jtn ?_)
      refine jcs ?_
      refine code_block ?_
      refine jcr ?_
      refine jq jri ?_
      refine jq jrdr ?_
      refine jq jrm ?_
      refine seq_nil ?_
      have hf1 := sumL_take (ls := s.rows.getD 0 []) (i := i) (by omega)
      have hf2 := sumL_le (s.rows.getD 0 []) (i + 1)
      have hf3 := flat_len ((s.rows.getD 0 []).take i)
      refine jcg ?_
      refine jq jrm ?_
      refine jq jrm ?_
      first | refine jqm (m_appendB rfl rfl rfl (Nat.le_refl _) (fun _ _ => CEnt.refl _) (src_rs rfl) rfl (fun j hj => by simp only [Nat.div_one]; exact CEnt.refl _) Tryz.underlying26 nu26 sz5 zr5 by5 rfl (by omega) (fun j hj => rfl) rfl rfl (fun p2 => ?_)) | refine jqm (m_appendB rfl rfl rfl (Nat.le_refl _) (fun _ _ => CEnt.refl _) (src_str rfl) rfl (fun j hj => CEnt.refl _) Tryz.underlying26 nu26 sz5 zr5 by5 rfl (by first | omega | (simp; done) | (simp; omega) | (simp at *; omega)) (fun j hj => rfl) rfl rfl (fun p2 => ?_)) | refine jqm (m_appendB rfl rfl rfl (Nat.le_refl _) (fun _ _ => CEnt.refl _) (src_os rfl (.inl rfl) (by omega)) rfl (fun j hj => by rw [Nat.zero_add]; exact CEnt.refl _) Tryz.underlying26 nu26 sz5 zr5 by5 rfl (by first | omega | (simp; done) | (simp; omega) | (simp at *; omega)) (fun j hj => rfl) rfl rfl (fun p2 => ?_))
      refine jq jrm ?_
      refine seq_nil ?_
      refine jbn (jtn ?_)
      refine jcg ?_
      refine jq jra ?_
      refine jq jrm ?_
      refine seq_nil ?_
      refine jtn ?_
      refine jlend ((i + 1, p2)) ?_ ?_ (h5 := ?_) (h7 := ?_)
      · show i + 1 ≤ (s.rows.getD 0 []).length; omega
      · show (s.rows.getD 0 []).length - (i + 1) < (s.rows.getD 0 []).length - i; omega
      · simp only [flat_take (show i < (s.rows.getD 0 []).length by omega)]
        exact .cons (CEnt.osI rfl) (.cons (CEnt.int (by omega)) .nil)
      · simp only [flat_take (show i < (s.rows.getD 0 []).length by omega)]
        exact .same (.same (.same .nil))
    refine code_exit (jte (jte (jbx (jtn ?_))))
    refine jcs ?_
    first
      | (have hiE : i = (s.rows.getD 0 []).length := by omega
         subst hiE
         dsimp only
         rw [List.take_length] at *
         have hfl := flat_len (s.rows.getD 0 []))
      | (have h00 : s.rows.getD 0 [] = [] := by rw [List.getD_eq_getElem?_getD, List.getElem?_eq_none (by omega)]; rfl
         have hfl : ((s.rows.getD 0 []).flatten).length = 0 := by rw [h00]; rfl)
    refine jcr ?_
    refine jq jrm ?_
    refine jq jrl ?_
    refine jq jrc ?_
    refine seq_nil ?_
    refine jcc (fun h145 => ?_) fun h145 => ?_
    · refine jcr ?_
      refine jq jrm ?_
      refine jq jrm ?_
      refine seq_nil ?_
      refine code_ret (jtr ?_)
      first
        | (exfalso; simp at h145; done)
        | (have e : rdoneE s = 3 := by unfold rdoneE; rw [if_neg (by omega), if_neg (by omega), if_pos (by omega)]
           exact end_closeRW (.inl rfl) n s 1 (res_2 rfl javt javt) (CEnt.tup2 (by rw [bad e (by omega)]; exact CEnt.nilB) (CEnt.int (by rw [e]; rfl))) rfl rfl rfl (by exact CEnt.refl _) (by exact CEnt.osI rfl) (by exact CEnt.refl _) (Nat.le_refl _) (fun _ _ => by exact CEnt.refl _))
    refine code_skip (jtn ?_)
    refine jcr ?_
    refine jq jrm ?_
    refine jq jrm ?_
    refine jq jrm ?_
    refine seq_nil ?_
    refine code_ent (freeze 2 rfl) ?_
    first
      | refine code_ent (thawB 2 ((s.rows.getD 0 []).flatten) rfl rfl rfl rfl) ?_
      | refine code_ent (thawBL 2 [] rfl rfl rfl rfl .nil) ?_
    refine code_ret ?_
    have e : rdoneE s = 0 := by unfold rdoneE; rw [if_neg (by omega), if_neg (by omega), if_neg (by omega)]
    exact end_closeRW (.inl rfl) n s 1 (res_2 rfl javt javt) (CEnt.tup2 (CEnt.bs (by unfold rdoneB; rw [if_pos e]; done)) (CEnt.int (by rw [e]; rfl))) rfl rfl rfl (by exact CEnt.refl _) (by exact CEnt.osI rfl) (by exact CEnt.refl _) (Nat.le_refl _) (fun _ _ => by exact CEnt.refl _)
end Am
end Go.Proofs.YtjckfbpdieijeaaGreatDoor

/- Chapter 8: the reference's writer: Do. -/
namespace Go.Proofs.YtjckfbpdieijeaaGreatDoor
set_option linter.unusedVariables false
namespace Am
variable {gs : List Nat} [OkG gs]
open Go.RowKit Cal
set_option maxRecDepth 100000

theorem okRD_tail {s : R8} (h : OkRD s) : OkR ⟨s.tags.take (s.tags.length - 1), s.rows, s.e⟩ := ⟨by have := h.ok.n; simp only [List.length_take]; omega, h.ok.r, h.ok.k⟩
theorem bodyF_if (t : Int) (l : List (List UInt8)) : bodyF (t, l) = if t = 49 then (sortL l).flatten else l.flatten := rfl
theorem in_take {l : List Int} {i : Nat} (h : i < l.length - 1) : inF l i = inF (l.take (l.length - 1)) i := by
  simp only [inF, List.getD_eq_getElem?_getD, List.getElem?_take, h, if_true]
/-- what an element is made of, in order -/
def lsF (t : Int) (l : List (List UInt8)) : List (List UInt8) := if t = 49 then sortL l else l
theorem lsF_body (t : Int) (l : List (List UInt8)) : bodyF (t, l) = (lsF t l).flatten := by unfold lsF; rw [bodyF_if]; split <;> rfl
theorem lsF_len (t : Int) (l : List (List UInt8)) : (lsF t l).length = l.length ∧ sumL (lsF t l) = sumL l := by
  unfold lsF
  split
  · exact ⟨sortL_length l, sum_perm (sortL_perm l)⟩
  · exact ⟨rfl, rfl⟩
theorem body_tag (v : VV) : 0 ≤ (bodyV v).1 ∧ (bodyV v).1 < 256 := by
  unfold bodyV
  repeat' split
  all_goals (constructor <;> dsimp only <;> omega)
theorem bodyV_len {v : VV} (h : OkV v) : (bodyV v).2.1.length ≤ 1000000 := by
  have h1 := h.b
  have h2 := h.t
  have h3 := (putN_len v.n h.n.1 h.n.2).2
  have h4 := put_len v.t
  unfold bodyV
  split
  · show (putN v.n).length ≤ _; omega
  · split
    · show (putN v.n).length ≤ _; omega
    · split
      · show [if v.is then (255 : UInt8) else 0].length ≤ _; simp
      · split
        · exact h1
        · split
          · show (if askedM v.t v.n = 0 then v.t else []).length ≤ _; split <;> first | omega | simp
          · split
            · show (putM v.t).length ≤ _; omega
            · split
              · show (if inT v.n then bodyL (ofM v.n) else []).length ≤ _
                split
                · exact Nat.le_trans (Nat.le_of_eq (show (bodyL (ofM v.n)).length = 15 from rfl)) (by decide)
                · simp
              · show (bitsL v.n).length ≤ _
                unfold bitsL
                split
                · simp
                · rw [flags_len (by omega)]
                  have := (bl_is (m := v.n.toNat) (by omega)).2
                  omega
set_option maxHeartbeats 4000000 in
theorem rdoW_ac {gs : List Nat} (n : Nat) (s : R8) (v : VV) (hs : OkRD s) (hv : OkV v) : AC gs Tryz.prog 14 [rwO n s] [.op 0 (some n) 0, valC v] (fun r H' => r = .c (.tuple #[]) ∧ H' = [rwO n (rdoS v s)]) := by
  have hsn := hs.ok.n
  have hsr := hs.ok.r
  have hvb := hv.b
  have hkk := okR_at hs.ok s.tags.length
  have hss := hs.sum s.tags.length
  refine ac_of 183 Tryz.func14 rfl rfl rfl (fun al w0 F0 St0 => ?_)
  refine jcr ?_
  refine jqe (jebx 5 fun p1 => ?_)
  refine seq_nil ?_
  refine jcs ?_
  refine code_openRW 0 rfl fun gr => ?_
  refine code_ent (freeze 1 rfl) ?_
  refine code_ent (thawP 3 (m := 5) rfl rfl (by decide)) ?_
  dsimp only [List.set_cons_zero, List.set_cons_succ, List.cons_append, List.nil_append, List.length_cons, List.length_nil, Nat.zero_add, Nat.reduceAdd]
  refine jcr ?_
  refine jq jrm ?_
  refine jq jrnc ?_
  refine jq (jrfa 2 1 false) ?_
  refine jqo jrdo ?_
  refine jq jrc ?_
  refine seq_nil ?_
  refine jcc (fun h81 => ?_) fun h81 => ?_
  · refine code_ret (jtr ?_)
    rw [show rdoS v s = s by unfold rdoS; rw [if_pos (by omega)]]
    exact end_closeRW (.inl rfl) n s 2 (res_0 rfl) (CEnt.refl _) rfl rfl rfl (by exact CEnt.refl _) (by exact CEnt.osI rfl) (by exact CEnt.refl _) (Nat.le_refl _) (fun _ _ => by exact CEnt.refl _)
  refine code_skip (jtn ?_)
  refine jcr ?_
  refine jq (jrfa 0 1 false) ?_
  refine jq jrdr ?_
  refine seq_nil ?_
  refine code_block ?_
  refine jcr ?_
  refine jq jrc ?_
  refine jq jrm ?_
  refine seq_nil ?_
  refine jcc (fun h85 => ?_) fun h85 => ?_
  · refine jcr ?_
    refine jq (jrfa 1 1 false) ?_
    refine jq jrdr ?_
    refine jqe (jecP (rmade_ac v.n) ?_)
    refine jq jrn ?_
    refine seq_nil ?_
    refine jcc (fun h86 => ?_) fun h86 => ?_
    · refine jcg ?_
      refine jq jrm ?_
      refine jq jrnc ?_
      refine jq (jrfa 2 1 false) ?_
      refine jqm (jmstF 1 (rwB ⟨s.tags, s.rows, 5⟩ 2 gr) ?_ ?_)
      · exact (fun j hj => by rcases j with _ | _ | _ | j <;> exact CEnt.refl _)
      refine seq_nil ?_
      refine jbn ?_
      rw [show rdoS v s = ⟨s.tags, s.rows, 5⟩ by unfold rdoS; rw [if_neg (by omega), if_pos (by omega)]; unfold ropenS; rw [if_pos (by simp [madeM] at h86 ⊢; omega)]]
      exact end_closeRW (.inr rfl) n ⟨s.tags, s.rows, 5⟩ 2 (res_0 rfl) (CEnt.refl _) rfl rfl rfl (by exact CEnt.refl _) (by exact CEnt.osI rfl) (by exact CEnt.refl _) (Nat.le_refl _) (fun _ _ => by exact CEnt.refl _)
    refine jcr ?_
    refine jq jrm ?_
    refine jq jrnc ?_
    refine jq (jrfa 0 1 false) ?_
    refine jqo jrdo ?_
    refine jq jrl ?_
    refine jq jrc ?_
    refine seq_nil ?_
    refine jcc (fun h88 => ?_) fun h88 => ?_
    · refine jcg ?_
      refine jq jrm ?_
      refine jq jrnc ?_
      refine jq (jrfa 2 1 false) ?_
      refine jqm (jmstF 1 (rwB ⟨s.tags, s.rows, 6⟩ 2 gr) ?_ ?_)
      · exact (fun j hj => by rcases j with _ | _ | _ | j <;> exact CEnt.refl _)
      refine seq_nil ?_
      refine jbn ?_
      rw [show rdoS v s = ⟨s.tags, s.rows, 6⟩ by unfold rdoS; rw [if_neg (by omega), if_pos (by omega)]; unfold ropenS; rw [if_neg (by simp [madeM] at h86 ⊢; omega), if_pos (by omega)]]
      exact end_closeRW (.inr rfl) n ⟨s.tags, s.rows, 6⟩ 2 (res_0 rfl) (CEnt.refl _) rfl rfl rfl (by exact CEnt.refl _) (by exact CEnt.osI rfl) (by exact CEnt.refl _) (Nat.le_refl _) (fun _ _ => by exact CEnt.refl _)
    refine jcs ?_
    refine code_block ?_
    refine l_loop (α := Nat × Option Nat) [56, 57, 58, 59, 60, 61, 62, 63, 64, 65, 66, 67, 68, 69, 70, 71, 72, 73, 74, 75, 76] (fun i => []) (fun (i, g) => [(some n, .blk 3 (rwB (moreS s i) 2 g)), (p1, .frz 5 (fl [.c (.int .i64 v.kind), .c (.int .i64 v.n), .c (.bool v.is), bsC v.b, strC v.t])), (g, .blk (moreS s i).rows.length (rowsF (moreS s i).rows))]) (fun i => i.1 ≤ s.tags.length + 2 - s.rows.length) (fun i => s.tags.length + 2 - s.rows.length - i.1) ((0, gr)) ?_ (fun _ => rfl) ?_ ?_ ?_
    · exact Nat.zero_le _
    · (repeat (exact EntE.nil))
    · (show HEnt _ [(some n, Res.blk 3 (rwB (moreS s 0) 2 gr)), _, (gr, .blk (moreS s 0).rows.length (rowsF (moreS s 0).rows))]; rw [show moreS s 0 = s by unfold moreS; simp]; exact HEnt.refl _)
    · rintro ⟨i, g⟩ (hi : i ≤ s.tags.length + 2 - s.rows.length)
      have hml : (moreS s i).rows.length = s.rows.length + i := by simp [moreS]
      have hmt : (moreS s i).tags.length = s.tags.length := rfl
      refine jcs ?_
      refine jcs ?_
      refine jcd (.rd 0 (.rd 1 (.rd 2 (.rd 3 (.rd 4 (.rd 5 (.rd 6 (.rd 7 (.rd 8 (.rd 9 (.rd 10 (.rd 11 .done)))))))))))) ?_
      refine jyq jrm ?_
      refine jyq jrnc ?_
      refine jyq (jrfa 1 1 false) ?_
      refine jyo jrdo ?_
      refine jyq jrl ?_
      refine jyq jrm ?_
      refine jyq jrnc ?_
      refine jyq (jrfa 0 1 false) ?_
      refine jyo jrdo ?_
      refine jyq jrl ?_
      refine jyq jra ?_
      refine jyq jrc ?_
      refine jyd ?_
      refine jtn ?_
      refine jcc (fun h91 => ?_) fun h91 => ?_
      · refine code_skip (jtn ?_)
        refine code_block ?_
        refine jcg ?_
        refine jq jrm ?_
        refine jq jrm ?_
        refine jq jrnc ?_
        refine jq (jrfa 1 1 false) ?_
        refine jqo jrdo ?_
        refine jqe (jebl 1 1 zr56 fun p2 => ?_)
        refine seq_ent (weakH 3 1 (rowsF [[]]) rfl (Nat.le_refl _) (fun j hj => by rcases j with _ | j <;> first | exact CEnt.nilS _ _ | omega)) ?_
        refine jqm (m_appendC rowC_rows (l2 := [[]]) rfl rfl rfl rfl (Nat.le_of_eq (Nat.mul_one _)) (fun _ _ => CEnt.refl _) (src_os rfl (.inl rfl) (by decide)) rfl (fun j hj => by rw [Nat.zero_add]; exact CEnt.refl _) Tryz.underlying38 nu38 sz56 zr56 by56 rfl (by simp; omega) (by simp; omega) (fun j hj => rfl) rfl rfl (Nat.mul_one _) (fun p3 => ?_))
        refine jq jrnc ?_
        refine jq (jrfa 1 1 false) ?_
        refine jqm (jmstF 1 (rwB (moreS s (i + 1)) 2 p3) ?_ ?_)
        · exact (fun j hj => by rcases j with _ | _ | _ | j <;> first | exact CEnt.refl _ | exact CEnt.osI (by rw [more_succ]) | omega)
        refine seq_nil ?_
        refine jbn (jtn ?_)
        refine jlend ((i + 1, p3)) ?_ ?_ (h7 := ?_)
        · (show i + 1 ≤ _; omega)
        · (show _ - (i + 1) < _ - i; omega)
        · simp only [more_succ]; exact HEnt.refl _
      refine code_exit (jte (jte (jbx (jtn ?_))))
      refine jcs ?_
      have hiE : i = s.tags.length + 2 - s.rows.length := by omega
      have hpl := pad_len (s.tags.length + 2) s.rows
      dsimp only
      rw [more_pad s i _ hiE]
      rw [more_pad s i _ hiE] at hml
      have hLl : ([] ++ s.tags ++ [v.n]).length = s.tags.length + 1 := by simp
      refine jcdZ (.rd 0 (.rd 2 (.rd 3 (.rd 4 (.rd 5 (.rd 7 (.rd 8 (.two 1 (.two 6 (.one 9 (.one 10 (.rd 11 (.rd 12 (.one 13 .done))))) 9 (.one 6 (.one 10 (.rd 11 (.rd 12 (.one 13 .done)))))) 9 (.one 1 (.one 6 (.one 10 (.rd 11 (.rd 12 (.one 13 .done)))))))))))))) ?_
      refine jzq jrm ?_
      refine jzq jrm ?_
      refine jzq jrnc ?_
      refine jzq (jrfa 0 1 false) ?_
      refine jzo jrdo ?_
      refine jzq (jrfa 1 1 false) ?_
      refine jzq jrdr ?_
      refine jztwo ?_ ?_
      · refine jze (jebl 0 1 zr3 fun p2 => ?_)
        refine jztwo ?_ ?_
        · refine jzm (m_appendC rowC_in (l := []) rfl rfl rfl rfl (Nat.zero_le _) (fun j hj => absurd hj (Nat.not_lt_zero j)) (src_rs rfl) rfl (fun j hj => by simp only [Nat.div_one]; exact CEnt.refl _) Tryz.underlying22 nu22 sz3 zr3 by3 rfl (by (simp; omega)) (by (simp; omega)) (fun j hj => rfl) rfl rfl (Nat.mul_one _) (fun p3 => ?_))
          refine jze (jebl 1 1 zr3 fun p4 => ?_)
          refine jzm (m_appendC rowC_in (l2 := [v.n]) rfl rfl rfl rfl (by exact Nat.le_of_eq (Nat.mul_one _)) (fun _ _ => CEnt.refl _) (src_os rfl (.inl rfl) (by decide)) rfl (hh_ints (.cons (CEnt.int (rfl)) .nil)) Tryz.underlying22 nu22 sz3 zr3 by3 rfl (by (simp; omega)) (by (simp; omega)) (leaf_flk rfl rfl) rfl rfl (Nat.mul_one _) (fun p5 => ?_))
          refine jzq jrnc ?_
          refine jzq (jrfa 0 1 false) ?_
          refine jzm (jmst 1 ?_)
          refine jzd ?_
          refine jtn ?_
          first
            | (refine code_ent (freeze 3 rfl) ?_; refine code_ent (thawC 0 0 3 (rwB ⟨([] ++ s.tags ++ [v.n]), padR (s.tags.length + 2) s.rows, s.e⟩ 2 g) (fun i _ => inF ([] ++ s.tags ++ [v.n]) i) rfl rfl (CEnt.refl _) (CEnt.refl _) (fun j hj h0 => by rcases j with _ | _ | _ | j <;> first | omega | exact CEnt.refl _) (by simp) (fun a c ha hc => by obtain rfl : c = 0 := (by omega); rw [Nat.zero_add, Nat.mul_one, Nat.add_zero]; exact CEnt.refl _)) ?_; dsimp only [List.set_cons_zero, List.set_cons_succ, List.cons_append, List.nil_append, List.length_cons, List.length_nil, Nat.zero_add, Nat.reduceAdd])
            | (refine code_ent (freeze 4 rfl) ?_; refine code_ent (thawC 0 0 4 (rwB ⟨([] ++ s.tags ++ [v.n]), padR (s.tags.length + 2) s.rows, s.e⟩ 2 g) (fun i _ => inF ([] ++ s.tags ++ [v.n]) i) rfl rfl (CEnt.refl _) (CEnt.refl _) (fun j hj h0 => by rcases j with _ | _ | _ | j <;> first | omega | exact CEnt.refl _) (by simp) (fun a c ha hc => by obtain rfl : c = 0 := (by omega); rw [Nat.zero_add, Nat.mul_one, Nat.add_zero]; exact CEnt.refl _)) ?_; dsimp only [List.set_cons_zero, List.set_cons_succ, List.cons_append, List.nil_append, List.length_cons, List.length_nil, Nat.zero_add, Nat.reduceAdd])
          refine jcdB 10 (.rd 0 (.rd 1 (.rd 2 (.rd 3 (.rd 4 (.rd 5 (.rd 6 (.rd 7 (.rd 8 (.rd 9 .done)))))))))) ?_
          refine jyq jrm ?_
          refine jyq jrnc ?_
          refine jyq (jrfa 1 1 false) ?_
          refine jyo jrdo ?_
          refine jyq jrm ?_
          refine jyq jrnc ?_
          refine jyq (jrfa 0 1 false) ?_
          refine jyo jrdo ?_
          refine jyq jrl ?_
          refine jyq (jri (i := ([] ++ s.tags ++ [v.n]).length) (hz := by (simp only [List.length_append, List.length_cons, List.length_nil]; omega))) ?_
          refine jyd ?_
          show ASeq _ _ _ _ _ _
          refine jqm (jmstF 1 (rowsF ((padR (s.tags.length + 2) s.rows).set ([] ++ s.tags ++ [v.n]).length [])) ?_ ?_)
          · exact (fun j hj => rows_set (CEnt.nilS _ _) hj)
          refine seq_nil ?_
          refine jbn ?_
          rw [show rdoS v s = ⟨([] ++ s.tags ++ [v.n]), (padR (s.tags.length + 2) s.rows).set (s.tags.length + 1) [], s.e⟩ by unfold rdoS; rw [if_neg (by omega), if_pos (by omega)]; unfold ropenS; rw [if_neg (by simp [madeM] at h86 ⊢; omega), if_neg (by omega)]; rfl]
          exact end_closeRW (.inr rfl) n ⟨([] ++ s.tags ++ [v.n]), (padR (s.tags.length + 2) s.rows).set (s.tags.length + 1) [], s.e⟩ 2 (res_0 rfl) (CEnt.refl _) rfl rfl rfl (by exact CEnt.refl _) (by exact CEnt.osI (by simp)) (by exact CEnt.refl _) (by simp) (fun _ _ => by rw [hLl]; exact CEnt.refl _)
        · refine jze (jebl 1 1 zr3 fun p3 => ?_)
          refine jzm (m_appendC rowC_in (l := []) rfl rfl rfl rfl (Nat.zero_le _) (fun j hj => absurd hj (Nat.not_lt_zero j)) (src_rs rfl) rfl (fun j hj => by simp only [Nat.div_one]; exact CEnt.refl _) Tryz.underlying22 nu22 sz3 zr3 by3 rfl (by (simp; omega)) (by (simp; omega)) (fun j hj => rfl) rfl rfl (Nat.mul_one _) (fun p4 => ?_))
          refine jzm (m_appendC rowC_in (l2 := [v.n]) rfl rfl rfl rfl (by exact Nat.le_of_eq (Nat.mul_one _)) (fun _ _ => CEnt.refl _) (src_os rfl (.inl rfl) (by decide)) rfl (hh_ints (.cons (CEnt.int (rfl)) .nil)) Tryz.underlying22 nu22 sz3 zr3 by3 rfl (by (simp; omega)) (by (simp; omega)) (leaf_flk rfl rfl) rfl rfl (Nat.mul_one _) (fun p5 => ?_))
          refine jzq jrnc ?_
          refine jzq (jrfa 0 1 false) ?_
          refine jzm (jmst 1 ?_)
          refine jzd ?_
          refine jtn ?_
          first
            | (refine code_ent (freeze 3 rfl) ?_; refine code_ent (thawC 0 0 3 (rwB ⟨([] ++ s.tags ++ [v.n]), padR (s.tags.length + 2) s.rows, s.e⟩ 2 g) (fun i _ => inF ([] ++ s.tags ++ [v.n]) i) rfl rfl (CEnt.refl _) (CEnt.refl _) (fun j hj h0 => by rcases j with _ | _ | _ | j <;> first | omega | exact CEnt.refl _) (by simp) (fun a c ha hc => by obtain rfl : c = 0 := (by omega); rw [Nat.zero_add, Nat.mul_one, Nat.add_zero]; exact CEnt.refl _)) ?_; dsimp only [List.set_cons_zero, List.set_cons_succ, List.cons_append, List.nil_append, List.length_cons, List.length_nil, Nat.zero_add, Nat.reduceAdd])
            | (refine code_ent (freeze 4 rfl) ?_; refine code_ent (thawC 0 0 4 (rwB ⟨([] ++ s.tags ++ [v.n]), padR (s.tags.length + 2) s.rows, s.e⟩ 2 g) (fun i _ => inF ([] ++ s.tags ++ [v.n]) i) rfl rfl (CEnt.refl _) (CEnt.refl _) (fun j hj h0 => by rcases j with _ | _ | _ | j <;> first | omega | exact CEnt.refl _) (by simp) (fun a c ha hc => by obtain rfl : c = 0 := (by omega); rw [Nat.zero_add, Nat.mul_one, Nat.add_zero]; exact CEnt.refl _)) ?_; dsimp only [List.set_cons_zero, List.set_cons_succ, List.cons_append, List.nil_append, List.length_cons, List.length_nil, Nat.zero_add, Nat.reduceAdd])
          refine jcdB 10 (.rd 0 (.rd 1 (.rd 2 (.rd 3 (.rd 4 (.rd 5 (.rd 6 (.rd 7 (.rd 8 (.rd 9 .done)))))))))) ?_
          refine jyq jrm ?_
          refine jyq jrnc ?_
          refine jyq (jrfa 1 1 false) ?_
          refine jyo jrdo ?_
          refine jyq jrm ?_
          refine jyq jrnc ?_
          refine jyq (jrfa 0 1 false) ?_
          refine jyo jrdo ?_
          refine jyq jrl ?_
          refine jyq (jri (i := ([] ++ s.tags ++ [v.n]).length) (hz := by (simp only [List.length_append, List.length_cons, List.length_nil]; omega))) ?_
          refine jyd ?_
          show ASeq _ _ _ _ _ _
          refine jqm (jmstF 1 (rowsF ((padR (s.tags.length + 2) s.rows).set ([] ++ s.tags ++ [v.n]).length [])) ?_ ?_)
          · exact (fun j hj => rows_set (CEnt.nilS _ _) hj)
          refine seq_nil ?_
          refine jbn ?_
          rw [show rdoS v s = ⟨([] ++ s.tags ++ [v.n]), (padR (s.tags.length + 2) s.rows).set (s.tags.length + 1) [], s.e⟩ by unfold rdoS; rw [if_neg (by omega), if_pos (by omega)]; unfold ropenS; rw [if_neg (by simp [madeM] at h86 ⊢; omega), if_neg (by omega)]; rfl]
          exact end_closeRW (.inr rfl) n ⟨([] ++ s.tags ++ [v.n]), (padR (s.tags.length + 2) s.rows).set (s.tags.length + 1) [], s.e⟩ 2 (res_0 rfl) (CEnt.refl _) rfl rfl rfl (by exact CEnt.refl _) (by exact CEnt.osI (by simp)) (by exact CEnt.refl _) (by simp) (fun _ _ => by rw [hLl]; exact CEnt.refl _)
      · refine jze (jebl 1 1 zr3 fun p2 => ?_)
        refine jze (jebl 0 1 zr3 fun p3 => ?_)
        refine jzm (m_appendC rowC_in (l := []) rfl rfl rfl rfl (Nat.zero_le _) (fun j hj => absurd hj (Nat.not_lt_zero j)) (src_rs rfl) rfl (fun j hj => by simp only [Nat.div_one]; exact CEnt.refl _) Tryz.underlying22 nu22 sz3 zr3 by3 rfl (by (simp; omega)) (by (simp; omega)) (fun j hj => rfl) rfl rfl (Nat.mul_one _) (fun p4 => ?_))
        refine jzm (m_appendC rowC_in (l2 := [v.n]) rfl rfl rfl rfl (by exact Nat.le_of_eq (Nat.mul_one _)) (fun _ _ => CEnt.refl _) (src_os rfl (.inl rfl) (by decide)) rfl (hh_ints (.cons (CEnt.int (rfl)) .nil)) Tryz.underlying22 nu22 sz3 zr3 by3 rfl (by (simp; omega)) (by (simp; omega)) (leaf_flk rfl rfl) rfl rfl (Nat.mul_one _) (fun p5 => ?_))
        refine jzq jrnc ?_
        refine jzq (jrfa 0 1 false) ?_
        refine jzm (jmst 1 ?_)
        refine jzd ?_
        refine jtn ?_
        first
          | (refine code_ent (freeze 3 rfl) ?_; refine code_ent (thawC 0 0 3 (rwB ⟨([] ++ s.tags ++ [v.n]), padR (s.tags.length + 2) s.rows, s.e⟩ 2 g) (fun i _ => inF ([] ++ s.tags ++ [v.n]) i) rfl rfl (CEnt.refl _) (CEnt.refl _) (fun j hj h0 => by rcases j with _ | _ | _ | j <;> first | omega | exact CEnt.refl _) (by simp) (fun a c ha hc => by obtain rfl : c = 0 := (by omega); rw [Nat.zero_add, Nat.mul_one, Nat.add_zero]; exact CEnt.refl _)) ?_; dsimp only [List.set_cons_zero, List.set_cons_succ, List.cons_append, List.nil_append, List.length_cons, List.length_nil, Nat.zero_add, Nat.reduceAdd])
          | (refine code_ent (freeze 4 rfl) ?_; refine code_ent (thawC 0 0 4 (rwB ⟨([] ++ s.tags ++ [v.n]), padR (s.tags.length + 2) s.rows, s.e⟩ 2 g) (fun i _ => inF ([] ++ s.tags ++ [v.n]) i) rfl rfl (CEnt.refl _) (CEnt.refl _) (fun j hj h0 => by rcases j with _ | _ | _ | j <;> first | omega | exact CEnt.refl _) (by simp) (fun a c ha hc => by obtain rfl : c = 0 := (by omega); rw [Nat.zero_add, Nat.mul_one, Nat.add_zero]; exact CEnt.refl _)) ?_; dsimp only [List.set_cons_zero, List.set_cons_succ, List.cons_append, List.nil_append, List.length_cons, List.length_nil, Nat.zero_add, Nat.reduceAdd])
        refine jcdB 10 (.rd 0 (.rd 1 (.rd 2 (.rd 3 (.rd 4 (.rd 5 (.rd 6 (.rd 7 (.rd 8 (.rd 9 .done)))))))))) ?_
        refine jyq jrm ?_
        refine jyq jrnc ?_
        refine jyq (jrfa 1 1 false) ?_
        refine jyo jrdo ?_
        refine jyq jrm ?_
        refine jyq jrnc ?_
        refine jyq (jrfa 0 1 false) ?_
        refine jyo jrdo ?_
        refine jyq jrl ?_
        refine jyq (jri (i := ([] ++ s.tags ++ [v.n]).length) (hz := by (simp only [List.length_append, List.length_cons, List.length_nil]; omega))) ?_
        refine jyd ?_
        show ASeq _ _ _ _ _ _
        refine jqm (jmstF 1 (rowsF ((padR (s.tags.length + 2) s.rows).set ([] ++ s.tags ++ [v.n]).length [])) ?_ ?_)
        · exact (fun j hj => rows_set (CEnt.nilS _ _) hj)
        refine seq_nil ?_
        refine jbn ?_
        rw [show rdoS v s = ⟨([] ++ s.tags ++ [v.n]), (padR (s.tags.length + 2) s.rows).set (s.tags.length + 1) [], s.e⟩ by unfold rdoS; rw [if_neg (by omega), if_pos (by omega)]; unfold ropenS; rw [if_neg (by simp [madeM] at h86 ⊢; omega), if_neg (by omega)]; rfl]
        exact end_closeRW (.inr rfl) n ⟨([] ++ s.tags ++ [v.n]), (padR (s.tags.length + 2) s.rows).set (s.tags.length + 1) [], s.e⟩ 2 (res_0 rfl) (CEnt.refl _) rfl rfl rfl (by exact CEnt.refl _) (by exact CEnt.osI (by simp)) (by exact CEnt.refl _) (by simp) (fun _ _ => by rw [hLl]; exact CEnt.refl _)
  refine jcr ?_
  refine jq jrc ?_
  refine jq jrm ?_
  refine seq_nil ?_
  refine jcc (fun h97 => ?_) fun h97 => ?_
  rotate_left
  · refine jcr ?_
    refine jq jrc ?_
    refine jq jrm ?_
    refine seq_nil ?_
    refine jcc (fun h114 => ?_) fun h114 => ?_
    · refine jcr ?_
      refine jq (jrfa 3 1 false) ?_
      refine jq jrdr ?_
      refine jqe (jecP (rcheck_ac v.b hvb) ?_)
      refine jq jrm ?_
      refine jq jrx ?_
      refine jq jrx ?_
      refine jq jrm ?_
      refine jq jrm ?_
      refine seq_nil ?_
      refine jcs ?_
      refine jcr ?_
      refine jq jrm ?_
      refine jq jrc ?_
      refine seq_nil ?_
      refine jcc (fun h116 => ?_) fun h116 => ?_
      · refine jcr ?_
        refine jq jrm ?_
        refine jq jrm ?_
        refine jq jrnc ?_
        refine jq (jrfa 2 1 false) ?_
        refine jqm (jmstF 1 (rwB ⟨s.tags, s.rows, (depthM v.b).2⟩ 2 gr) ?_ ?_)
        · exact (fun j hj => by rcases j with _ | _ | _ | j <;> exact CEnt.refl _)
        refine seq_nil ?_
        refine code_ret (jtr (jbr ?_))
        rw [show rdoS v s = ⟨s.tags, s.rows, (depthM v.b).2⟩ by unfold rdoS; rw [if_neg (by omega), if_neg (by omega), if_neg (by omega), if_pos (by omega), if_pos (by omega)]]
        exact end_closeRW (.inl rfl) n ⟨s.tags, s.rows, (depthM v.b).2⟩ 2 (res_0 rfl) (CEnt.refl _) rfl rfl rfl (by exact CEnt.refl _) (by exact CEnt.osI rfl) (by exact CEnt.refl _) (Nat.le_refl _) (fun _ _ => by exact CEnt.refl _)
      refine code_skip (jtn ?_)
      refine jcg ?_
      refine jq jrm ?_
      refine jqe (jebl 0 1 zr5 fun p2 => ?_)
      refine jq (jrfa 3 1 false) ?_
      refine jq jrdr ?_
      first | refine jqm (m_appendB (l := []) rfl rfl rfl (Nat.zero_le _) (fun j hj => absurd hj (Nat.not_lt_zero j)) (src_rs rfl) rfl (fun j hj => by simp only [Nat.div_one]; exact CEnt.refl _) Tryz.underlying26 nu26 sz5 zr5 by5 rfl (by (simp; omega)) (fun j hj => rfl) rfl rfl (fun p3 => ?_)) | refine jqm (m_appendB (l := []) rfl rfl rfl (Nat.zero_le _) (fun j hj => absurd hj (Nat.not_lt_zero j)) (src_str rfl) rfl (fun j hj => CEnt.refl _) Tryz.underlying26 nu26 sz5 zr5 by5 rfl (by first | omega | (simp; done) | (simp; omega) | (simp at *; omega)) (fun j hj => rfl) rfl rfl (fun p3 => ?_)) | refine jqm (m_appendB (l := []) rfl rfl rfl (Nat.zero_le _) (fun j hj => absurd hj (Nat.not_lt_zero j)) (src_os rfl (.inl rfl) (by omega)) rfl (fun j hj => by rw [Nat.zero_add]; exact CEnt.refl _) Tryz.underlying26 nu26 sz5 zr5 by5 rfl (by first | omega | (simp; done) | (simp; omega) | (simp at *; omega)) (fun j hj => rfl) rfl rfl (fun p3 => ?_))
      refine seq_ent (freeze 3 rfl) ?_
      refine seq_ent (thawB 181 ([] ++ v.b) rfl rfl rfl rfl) ?_
      refine seq_ent (closeRW n s 0 2 rfl rfl rfl (CEnt.refl _) (CEnt.osI rfl) (CEnt.refl _) (Nat.le_refl _) (fun _ _ => CEnt.refl _)) ?_
      refine jqm (jmcH 0 (radd08_ac n s ([] ++ v.b) hs.ok) ?_)
      rintro _ _ ⟨rfl, rfl⟩
      refine ⟨_, _, rfl, CEnt.refl _, ?_⟩
      refine seq_nil ?_
      refine jbn ?_
      rw [show rdoS v s = raddS ([] ++ v.b) s by unfold rdoS; rw [if_neg (by omega), if_neg (by omega), if_neg (by omega), if_pos (by omega), if_neg (by omega)]; rfl]
      exact end_own (.inr rfl) _ [_] [0] (by decide) rfl (res_0 rfl) ⟨rfl, rfl⟩
    refine jcr ?_
    refine jq (jrdrA 5) ?_
    refine jqe (jecS (rbody08_ac v hv) ?_)
    rintro _ _ ⟨⟨bb, rfl, hbb⟩, rfl⟩
    refine jq jrm ?_
    refine jq jrx ?_
    refine jq jrx ?_
    refine jq jrx ?_
    refine jq jrm ?_
    refine jq jrm ?_
    refine jq jrm ?_
    refine seq_nil ?_
    refine jcs ?_
    refine jcr ?_
    refine jq jrm ?_
    refine jq jrc ?_
    refine seq_nil ?_
    refine jcc (fun h123 => ?_) fun h123 => ?_
    · refine jcr ?_
      refine jq jrm ?_
      refine jq jrm ?_
      refine jq jrnc ?_
      refine jq (jrfa 2 1 false) ?_
      refine jqm (jmstF 1 (rwB ⟨s.tags, s.rows, (bodyV v).2.2⟩ 2 gr) ?_ ?_)
      · exact (fun j hj => by rcases j with _ | _ | _ | j <;> exact CEnt.refl _)
      refine seq_nil ?_
      refine code_ret (jtr (jbr ?_))
      rw [show rdoS v s = ⟨s.tags, s.rows, (bodyV v).2.2⟩ by unfold rdoS; rw [if_neg (by omega), if_neg (by omega), if_neg (by omega), if_neg (by omega), if_pos (by omega)]]
      exact end_closeRW (.inl rfl) n ⟨s.tags, s.rows, (bodyV v).2.2⟩ 2 (res_0 rfl) (CEnt.refl _) rfl rfl rfl (by exact CEnt.refl _) (by exact CEnt.osI rfl) (by exact CEnt.refl _) (Nat.le_refl _) (fun _ _ => by exact CEnt.refl _)
    refine code_skip (jtn ?_)
    have hb0 : bb = (bodyV v).2.1 := hbb (by omega)
    subst hb0
    refine code_ent (closeRW n s 0 2 rfl rfl rfl (CEnt.refl _) (CEnt.osI rfl) (CEnt.refl _) (Nat.le_refl _) (fun _ _ => CEnt.refl _)) ?_
    dsimp only [List.set_cons_zero, List.set_cons_succ, List.cons_append, List.nil_append, List.length_cons, List.length_nil, Nat.zero_add, Nat.reduceAdd]
    refine jcg ?_
    refine jq jrm ?_
    refine jq jrm ?_
    refine jq jrm ?_
    refine jqm (jmcH 0 (rput08_ac n s (bodyV v).1 (bodyV v).2.1 hs.ok (body_tag v) (bodyV_len hv)) ?_)
    rintro _ _ ⟨rfl, rfl⟩
    refine ⟨_, _, rfl, CEnt.refl _, ?_⟩
    refine seq_nil ?_
    refine jbn ?_
    rw [show rdoS v s = rputS (bodyV v).1 (bodyV v).2.1 s by unfold rdoS; rw [if_neg (by omega), if_neg (by omega), if_neg (by omega), if_neg (by omega), if_neg (by omega)]]
    exact end_own (.inr rfl) _ [_] [0] (by decide) rfl (res_0 rfl) ⟨rfl, rfl⟩
  refine jcr ?_
  refine jq jrm ?_
  refine jq jrnc ?_
  refine jq (jrfa 0 1 false) ?_
  refine jqo jrdo ?_
  refine jq jrl ?_
  refine jq jrm ?_
  refine seq_nil ?_
  refine jcs ?_
  refine jcr ?_
  refine jq jrm ?_
  refine jq jrc ?_
  refine seq_nil ?_
  refine jcc (fun h99 => ?_) fun h99 => ?_
  · refine jcr ?_
    refine jq jrm ?_
    refine jq jrnc ?_
    refine jq (jrfa 2 1 false) ?_
    refine jqm (jmstF 1 (rwB ⟨s.tags, s.rows, 24⟩ 2 gr) ?_ ?_)
    · exact (fun j hj => by rcases j with _ | _ | _ | j <;> exact CEnt.refl _)
    refine seq_nil ?_
    refine code_ret (jtr (jbr ?_))
    rw [show rdoS v s = ⟨s.tags, s.rows, 24⟩ by unfold rdoS; rw [if_neg (by omega), if_neg (by omega), if_pos (by omega)]; unfold rcloseS; rw [if_pos (by omega)]]
    exact end_closeRW (.inl rfl) n ⟨s.tags, s.rows, 24⟩ 2 (res_0 rfl) (CEnt.refl _) rfl rfl rfl (by exact CEnt.refl _) (by exact CEnt.osI rfl) (by exact CEnt.refl _) (Nat.le_refl _) (fun _ _ => by exact CEnt.refl _)
  refine code_skip (jtn ?_)
  have hlt := hs.lt (by omega)
  have hmem : (s.tags.getD (s.tags.length - 1) 0) ∈ s.tags := getD_mem' 0 (by omega)
  have htg := hs.tag _ hmem
  have hll := lsF_len (s.tags.getD (s.tags.length - 1) 0) (s.rows.getD s.tags.length [])
  refine jcr ?_
  refine jq jrm ?_
  refine jq jrnc ?_
  refine jq (jrfa 1 1 false) ?_
  refine jqo jrdo ?_
  refine jq jrm ?_
  refine jq jri ?_
  refine jqo jrdo ?_
  refine jq jrm ?_
  refine seq_nil ?_
  refine jcs ?_
  refine jcr ?_
  refine jq jrm ?_
  refine jq jrnc ?_
  refine jq (jrfa 0 1 false) ?_
  refine jqo jrdo ?_
  refine jq jrm ?_
  refine jq jra ?_
  refine jq (jri (i := (s.tags.length - 1)) (hz := by omega)) ?_
  refine jq jrdr ?_
  refine jq jrc ?_
  refine seq_nil ?_
  refine jcc (fun h104 => ?_) fun h104 => ?_
  rotate_left
  · refine code_skip (jtn ?_)
    first
      | refine code_ent (weaken 5 (lbC (lsF (s.tags.getD (s.tags.length - 1) 0) (s.rows.getD s.tags.length []))) (by unfold lsF; rw [if_pos h104]; exact CEnt.refl _)) ?_
      | refine code_ent (weaken 5 (lbC (lsF (s.tags.getD (s.tags.length - 1) 0) (s.rows.getD s.tags.length []))) (by unfold lsF; rw [if_neg h104]; exact CEnt.refl _)) ?_
    refine jcr ?_
    refine jqe (jebl 0 1 zr5 fun p2 => ?_)
    refine jq jrm ?_
    refine seq_nil ?_
    refine jcs ?_
    refine jcr ?_
    refine jq jrm ?_
    refine jq jrl ?_
    refine jq jrm ?_
    refine seq_nil ?_
    refine code_block ?_
    refine l_loop (α := Nat × Option Nat) [6, 8, 133, 134, 135, 136, 137, 138, 139, 140] (fun (i, g) => [(6, .os 3 g 0 (((lsF (s.tags.getD (s.tags.length - 1) 0) (s.rows.getD s.tags.length [])).take i).flatten).length 1), (133, .c (.int .i64 (i : Nat)))]) (fun (i, g) => [(some n, .blk 3 (rwB s 2 gr)), (p1, .frz 5 (fl [.c (.int .i64 v.kind), .c (.int .i64 v.n), .c (.bool v.is), bsC v.b, strC v.t])), (gr, .blk s.rows.length (rowsF s.rows)), (g, .blk (((lsF (s.tags.getD (s.tags.length - 1) 0) (s.rows.getD s.tags.length [])).take i).flatten).length (byF ((lsF (s.tags.getD (s.tags.length - 1) 0) (s.rows.getD s.tags.length [])).take i).flatten))]) (fun i => i.1 ≤ (lsF (s.tags.getD (s.tags.length - 1) 0) (s.rows.getD s.tags.length [])).length) (fun i => (lsF (s.tags.getD (s.tags.length - 1) 0) (s.rows.getD s.tags.length [])).length - i.1) ((0, p2)) ?_ (fun _ => rfl) ?_ ?_ ?_
    · exact Nat.zero_le _
    · exact .cons (CEnt.osI rfl) (.cons (CEnt.refl _) .nil)
    · exact .same (.same (.same (.blk rfl (fun j hj => absurd hj (Nat.not_lt_zero j)) .nil)))
    · rintro ⟨i, g⟩ (hi : i ≤ (lsF (s.tags.getD (s.tags.length - 1) 0) (s.rows.getD s.tags.length [])).length)
      refine jcr ?_
      refine jq jrc ?_
      refine seq_nil ?_
      refine jcs ?_
      refine jcc (fun h108 => ?_) fun h108 => ?_
      · refine code_skip (jtn ?_)
        refine jcs ?_
        refine code_block ?_
        refine jcr ?_
        refine jq jri ?_
        refine jq jrdr ?_
        refine jq jrm ?_
        refine seq_nil ?_
        have hf1 := sumL_take (ls := (lsF (s.tags.getD (s.tags.length - 1) 0) (s.rows.getD s.tags.length []))) (i := i) (by omega)
        have hf2 := sumL_le (lsF (s.tags.getD (s.tags.length - 1) 0) (s.rows.getD s.tags.length [])) (i + 1)
        have hf3 := flat_len ((lsF (s.tags.getD (s.tags.length - 1) 0) (s.rows.getD s.tags.length [])).take i)
        refine jcg ?_
        refine jq jrm ?_
        refine jq jrm ?_
        first | refine jqm (m_appendB rfl rfl rfl (Nat.le_refl _) (fun _ _ => CEnt.refl _) (src_rs rfl) rfl (fun j hj => by simp only [Nat.div_one]; exact CEnt.refl _) Tryz.underlying26 nu26 sz5 zr5 by5 rfl (by omega) (fun j hj => rfl) rfl rfl (fun p3 => ?_)) | refine jqm (m_appendB rfl rfl rfl (Nat.le_refl _) (fun _ _ => CEnt.refl _) (src_str rfl) rfl (fun j hj => CEnt.refl _) Tryz.underlying26 nu26 sz5 zr5 by5 rfl (by first | omega | (simp; done) | (simp; omega) | (simp at *; omega)) (fun j hj => rfl) rfl rfl (fun p3 => ?_)) | refine jqm (m_appendB rfl rfl rfl (Nat.le_refl _) (fun _ _ => CEnt.refl _) (src_os rfl (.inl rfl) (by omega)) rfl (fun j hj => by rw [Nat.zero_add]; exact CEnt.refl _) Tryz.underlying26 nu26 sz5 zr5 by5 rfl (by first | omega | (simp; done) | (simp; omega) | (simp at *; omega)) (fun j hj => rfl) rfl rfl (fun p3 => ?_))
        refine jq jrm ?_
        refine seq_nil ?_
        refine jbn (jtn ?_)
        refine jcg ?_
        refine jq jra ?_
        refine jq jrm ?_
        refine seq_nil ?_
        refine jtn ?_
        refine jlend ((i + 1, p3)) ?_ ?_ (h5 := ?_) (h7 := ?_)
        · show i + 1 ≤ (lsF (s.tags.getD (s.tags.length - 1) 0) (s.rows.getD s.tags.length [])).length; omega
        · show (lsF (s.tags.getD (s.tags.length - 1) 0) (s.rows.getD s.tags.length [])).length - (i + 1) < (lsF (s.tags.getD (s.tags.length - 1) 0) (s.rows.getD s.tags.length [])).length - i; omega
        · simp only [flat_take (show i < (lsF (s.tags.getD (s.tags.length - 1) 0) (s.rows.getD s.tags.length [])).length by omega)]
          exact .cons (CEnt.osI rfl) (.cons (CEnt.int (by omega)) .nil)
        · simp only [flat_take (show i < (lsF (s.tags.getD (s.tags.length - 1) 0) (s.rows.getD s.tags.length [])).length by omega)]
          exact .same (.same (.same (.same .nil)))
      refine code_exit (jte (jte (jbx (jtn ?_))))
      have hiE : i = (lsF (s.tags.getD (s.tags.length - 1) 0) (s.rows.getD s.tags.length [])).length := by omega
      subst hiE
      dsimp only
      rw [List.take_length]
      refine jcr ?_
      refine jq jrm ?_
      refine jq jrnc ?_
      refine jq (jrfa 0 1 false) ?_
      refine jqo jrdo ?_
      refine jq jrm ?_
      refine jq jra ?_
      refine jq (jri (i := (s.tags.length - 1)) (hz := by omega)) ?_
      refine jq jrdr ?_
      refine jq jrm ?_
      refine seq_nil ?_
      refine jcr ?_
      refine jq jrm ?_
      refine jq jrm ?_
      refine jq jrnc ?_
      refine jq (jrfa 0 1 false) ?_
      refine jqo jrdo ?_
      refine jq jrm ?_
      refine jq jra ?_
      refine jq (jrsr (hl := (bd_none _ _)) (hu := (bd_some rfl (show _ = (((s.tags.length - 1) : Nat) : Int) by omega)))) ?_
      refine jq jrnc ?_
      refine jq (jrfa 0 1 false) ?_
      refine jqm (jmstF 1 (rwB ⟨s.tags.take (s.tags.length - 1), s.rows, s.e⟩ 2 gr) ?_ ?_)
      · exact (fun j hj => by rcases j with _ | _ | _ | j <;> first | exact CEnt.rs (by rw [List.length_take]; omega) (fun i q hi hq => CEnt.of_eq (by rw [Nat.zero_add]; exact in_take hi)) | exact CEnt.refl _ | omega)
      refine seq_nil ?_
      refine code_ent (freeze 3 rfl) ?_
      refine code_ent (thawB 6 ((lsF (s.tags.getD (s.tags.length - 1) 0) (s.rows.getD s.tags.length [])).flatten) rfl rfl rfl rfl) ?_
      refine code_ent (closeRW n ⟨s.tags.take (s.tags.length - 1), s.rows, s.e⟩ 0 2 rfl rfl rfl (CEnt.refl _) (CEnt.osI rfl) (CEnt.refl _) (Nat.le_refl _) (fun _ _ => CEnt.refl _)) ?_
      dsimp only [List.set_cons_zero, List.set_cons_succ, List.cons_append, List.nil_append, List.length_cons, List.length_nil, Nat.zero_add, Nat.reduceAdd]
      refine jcg ?_
      refine jq jrm ?_
      refine jq jrm ?_
      refine jq jrm ?_
      refine jqm (jmcH 0 (rput08_ac n ⟨s.tags.take (s.tags.length - 1), s.rows, s.e⟩ (s.tags.getD (s.tags.length - 1) 0) ((lsF (s.tags.getD (s.tags.length - 1) 0) (s.rows.getD s.tags.length [])).flatten) (okRD_tail hs) htg (by rw [flat_len]; omega)) ?_)
      rintro _ _ ⟨rfl, rfl⟩
      refine ⟨_, _, rfl, CEnt.refl _, ?_⟩
      refine seq_nil ?_
      refine jbn ?_
      rw [show rdoS v s = rputS (s.tags.getD (s.tags.length - 1) 0) ((lsF (s.tags.getD (s.tags.length - 1) 0) (s.rows.getD s.tags.length [])).flatten) ⟨s.tags.take (s.tags.length - 1), s.rows, s.e⟩ by unfold rdoS; rw [if_neg (by omega), if_neg (by omega), if_pos (by omega)]; unfold rcloseS; rw [if_neg (by omega), lsF_body]]
      exact end_own (.inr rfl) _ [_] [0] (by decide) rfl (res_0 rfl) ⟨rfl, rfl⟩
  refine jcg ?_
  refine jq jrm ?_
  refine jqe (jecP (rsorted07_ac (s.rows.getD s.tags.length []) hkk) ?_)
  refine jq jrm ?_
  refine seq_nil ?_
  refine jtn ?_
  first
    | refine code_ent (weaken 5 (lbC (lsF (s.tags.getD (s.tags.length - 1) 0) (s.rows.getD s.tags.length []))) (by unfold lsF; rw [if_pos h104]; exact CEnt.refl _)) ?_
    | refine code_ent (weaken 5 (lbC (lsF (s.tags.getD (s.tags.length - 1) 0) (s.rows.getD s.tags.length []))) (by unfold lsF; rw [if_neg h104]; exact CEnt.refl _)) ?_
  refine jcr ?_
  refine jqe (jebl 0 1 zr5 fun p2 => ?_)
  refine jq jrm ?_
  refine seq_nil ?_
  refine jcs ?_
  refine jcr ?_
  refine jq jrm ?_
  refine jq jrl ?_
  refine jq jrm ?_
  refine seq_nil ?_
  refine code_block ?_
  refine l_loop (α := Nat × Option Nat) [6, 8, 133, 134, 135, 136, 137, 138, 139, 140] (fun (i, g) => [(6, .os 3 g 0 (((lsF (s.tags.getD (s.tags.length - 1) 0) (s.rows.getD s.tags.length [])).take i).flatten).length 1), (133, .c (.int .i64 (i : Nat)))]) (fun (i, g) => [(some n, .blk 3 (rwB s 2 gr)), (p1, .frz 5 (fl [.c (.int .i64 v.kind), .c (.int .i64 v.n), .c (.bool v.is), bsC v.b, strC v.t])), (gr, .blk s.rows.length (rowsF s.rows)), (g, .blk (((lsF (s.tags.getD (s.tags.length - 1) 0) (s.rows.getD s.tags.length [])).take i).flatten).length (byF ((lsF (s.tags.getD (s.tags.length - 1) 0) (s.rows.getD s.tags.length [])).take i).flatten))]) (fun i => i.1 ≤ (lsF (s.tags.getD (s.tags.length - 1) 0) (s.rows.getD s.tags.length [])).length) (fun i => (lsF (s.tags.getD (s.tags.length - 1) 0) (s.rows.getD s.tags.length [])).length - i.1) ((0, p2)) ?_ (fun _ => rfl) ?_ ?_ ?_
  · exact Nat.zero_le _
  · exact .cons (CEnt.osI rfl) (.cons (CEnt.refl _) .nil)
  · exact .same (.same (.same (.blk rfl (fun j hj => absurd hj (Nat.not_lt_zero j)) .nil)))
  · rintro ⟨i, g⟩ (hi : i ≤ (lsF (s.tags.getD (s.tags.length - 1) 0) (s.rows.getD s.tags.length [])).length)
    refine jcr ?_
    refine jq jrc ?_
    refine seq_nil ?_
    refine jcs ?_
    refine jcc (fun h108 => ?_) fun h108 => ?_
    · refine code_skip (jtn ?_)
      refine jcs ?_
      refine code_block ?_
      refine jcr ?_
      refine jq jri ?_
      refine jq jrdr ?_
      refine jq jrm ?_
      refine seq_nil ?_
      have hf1 := sumL_take (ls := (lsF (s.tags.getD (s.tags.length - 1) 0) (s.rows.getD s.tags.length []))) (i := i) (by omega)
      have hf2 := sumL_le (lsF (s.tags.getD (s.tags.length - 1) 0) (s.rows.getD s.tags.length [])) (i + 1)
      have hf3 := flat_len ((lsF (s.tags.getD (s.tags.length - 1) 0) (s.rows.getD s.tags.length [])).take i)
      refine jcg ?_
      refine jq jrm ?_
      refine jq jrm ?_
      first | refine jqm (m_appendB rfl rfl rfl (Nat.le_refl _) (fun _ _ => CEnt.refl _) (src_rs rfl) rfl (fun j hj => by simp only [Nat.div_one]; exact CEnt.refl _) Tryz.underlying26 nu26 sz5 zr5 by5 rfl (by omega) (fun j hj => rfl) rfl rfl (fun p3 => ?_)) | refine jqm (m_appendB rfl rfl rfl (Nat.le_refl _) (fun _ _ => CEnt.refl _) (src_str rfl) rfl (fun j hj => CEnt.refl _) Tryz.underlying26 nu26 sz5 zr5 by5 rfl (by first | omega | (simp; done) | (simp; omega) | (simp at *; omega)) (fun j hj => rfl) rfl rfl (fun p3 => ?_)) | refine jqm (m_appendB rfl rfl rfl (Nat.le_refl _) (fun _ _ => CEnt.refl _) (src_os rfl (.inl rfl) (by omega)) rfl (fun j hj => by rw [Nat.zero_add]; exact CEnt.refl _) Tryz.underlying26 nu26 sz5 zr5 by5 rfl (by first | omega | (simp; done) | (simp; omega) | (simp at *; omega)) (fun j hj => rfl) rfl rfl (fun p3 => ?_))
      refine jq jrm ?_
      refine seq_nil ?_
      refine jbn (jtn ?_)
      refine jcg ?_
      refine jq jra ?_
      refine jq jrm ?_
      refine seq_nil ?_
      refine jtn ?_
      refine jlend ((i + 1, p3)) ?_ ?_ (h5 := ?_) (h7 := ?_)
      · show i + 1 ≤ (lsF (s.tags.getD (s.tags.length - 1) 0) (s.rows.getD s.tags.length [])).length; omega
      · show (lsF (s.tags.getD (s.tags.length - 1) 0) (s.rows.getD s.tags.length [])).length - (i + 1) < (lsF (s.tags.getD (s.tags.length - 1) 0) (s.rows.getD s.tags.length [])).length - i; omega
      · simp only [flat_take (show i < (lsF (s.tags.getD (s.tags.length - 1) 0) (s.rows.getD s.tags.length [])).length by omega)]
        exact .cons (CEnt.osI rfl) (.cons (CEnt.int (by omega)) .nil)
      · simp only [flat_take (show i < (lsF (s.tags.getD (s.tags.length - 1) 0) (s.rows.getD s.tags.length [])).length by omega)]
        exact .same (.same (.same (.same .nil)))
    refine code_exit (jte (jte (jbx (jtn ?_))))
    have hiE : i = (lsF (s.tags.getD (s.tags.length - 1) 0) (s.rows.getD s.tags.length [])).length := by omega
    subst hiE
    dsimp only
    rw [List.take_length]
    refine jcr ?_
    refine jq jrm ?_
    refine jq jrnc ?_
    refine jq (jrfa 0 1 false) ?_
    refine jqo jrdo ?_
    refine jq jrm ?_
    refine jq jra ?_
    refine jq (jri (i := (s.tags.length - 1)) (hz := by omega)) ?_
    refine jq jrdr ?_
    refine jq jrm ?_
    refine seq_nil ?_
    refine jcr ?_
    refine jq jrm ?_
    refine jq jrm ?_
    refine jq jrnc ?_
    refine jq (jrfa 0 1 false) ?_
    refine jqo jrdo ?_
    refine jq jrm ?_
    refine jq jra ?_
    refine jq (jrsr (hl := (bd_none _ _)) (hu := (bd_some rfl (show _ = (((s.tags.length - 1) : Nat) : Int) by omega)))) ?_
    refine jq jrnc ?_
    refine jq (jrfa 0 1 false) ?_
    refine jqm (jmstF 1 (rwB ⟨s.tags.take (s.tags.length - 1), s.rows, s.e⟩ 2 gr) ?_ ?_)
    · exact (fun j hj => by rcases j with _ | _ | _ | j <;> first | exact CEnt.rs (by rw [List.length_take]; omega) (fun i q hi hq => CEnt.of_eq (by rw [Nat.zero_add]; exact in_take hi)) | exact CEnt.refl _ | omega)
    refine seq_nil ?_
    refine code_ent (freeze 3 rfl) ?_
    refine code_ent (thawB 6 ((lsF (s.tags.getD (s.tags.length - 1) 0) (s.rows.getD s.tags.length [])).flatten) rfl rfl rfl rfl) ?_
    refine code_ent (closeRW n ⟨s.tags.take (s.tags.length - 1), s.rows, s.e⟩ 0 2 rfl rfl rfl (CEnt.refl _) (CEnt.osI rfl) (CEnt.refl _) (Nat.le_refl _) (fun _ _ => CEnt.refl _)) ?_
    dsimp only [List.set_cons_zero, List.set_cons_succ, List.cons_append, List.nil_append, List.length_cons, List.length_nil, Nat.zero_add, Nat.reduceAdd]
    refine jcg ?_
    refine jq jrm ?_
    refine jq jrm ?_
    refine jq jrm ?_
    refine jqm (jmcH 0 (rput08_ac n ⟨s.tags.take (s.tags.length - 1), s.rows, s.e⟩ (s.tags.getD (s.tags.length - 1) 0) ((lsF (s.tags.getD (s.tags.length - 1) 0) (s.rows.getD s.tags.length [])).flatten) (okRD_tail hs) htg (by rw [flat_len]; omega)) ?_)
    rintro _ _ ⟨rfl, rfl⟩
    refine ⟨_, _, rfl, CEnt.refl _, ?_⟩
    refine seq_nil ?_
    refine jbn ?_
    rw [show rdoS v s = rputS (s.tags.getD (s.tags.length - 1) 0) ((lsF (s.tags.getD (s.tags.length - 1) 0) (s.rows.getD s.tags.length [])).flatten) ⟨s.tags.take (s.tags.length - 1), s.rows, s.e⟩ by unfold rdoS; rw [if_neg (by omega), if_neg (by omega), if_pos (by omega)]; unfold rcloseS; rw [if_neg (by omega), lsF_body]]
    exact end_own (.inr rfl) _ [_] [0] (by decide) rfl (res_0 rfl) ⟨rfl, rfl⟩
end Am
end Go.Proofs.YtjckfbpdieijeaaGreatDoor

/- Chapter 8, plain: writers stay small. -/
namespace Go.Proofs.YtjckfbpdieijeaaGreatDoor
set_option linter.unusedVariables false
namespace Am
open Go.RowKit Cal
set_option maxRecDepth 100000

/-- a value of a guarded list -/
structure SmallV (v : VV) : Prop where
  n : -9223372036854775808 ≤ v.n ∧ v.n ≤ 9223372036854775807
  b : v.b.length ≤ 300
  t : v.t.length ≤ 300
theorem SmallV.ok {v : VV} (h : SmallV v) : OkV v := ⟨h.n, by have := h.b; omega, by have := h.t; omega⟩
def frW (fr : List (Int × List (List UInt8))) : Nat := (fr.map fun x => sumL x.2 + 6).sum
def wtW (s : W8) : Nat := s.d.length + frW s.fr
theorem frW_cons (x : Int × List (List UInt8)) (fr : List (Int × List (List UInt8))) : frW (x :: fr) = sumL x.2 + 6 + frW fr := by simp [frW]
theorem sumL_snoc (l : List (List UInt8)) (b : List UInt8) : sumL (l ++ [b]) = sumL l + b.length := by rw [sumL_app]; simp [sumL]
theorem putL_len (tag : Int) (b : List UInt8) : (putL tag b).length ≤ b.length + 6 := by
  unfold putL
  have := lenL_bd b.length
  simp only [List.length_cons, List.length_append]
  omega
theorem wt_add (b : List UInt8) (s : W8) : wtW (addW b s) = wtW s + b.length := by
  obtain ⟨fr, d, k⟩ := s
  cases fr with
  | nil => simp [wtW, addW, frW]
  | cons x fr =>
    show d.length + frW ((x.1, x.2 ++ [b]) :: fr) = d.length + frW (x :: fr) + _
    rw [frW_cons, frW_cons]
    show d.length + (sumL (x.2 ++ [b]) + 6 + frW fr) = _
    rw [sumL_snoc]
    omega
theorem wt_fail (e : Nat) (s : W8) : wtW (failW e s) = wtW s := by unfold failW; split <;> rfl
theorem wt_put (tag : Int) (b : List UInt8) (e : Nat) (s : W8) : wtW (putW tag b e s) ≤ wtW s + b.length + 6 := by
  unfold putW
  split
  · rw [wt_fail]; omega
  · split
    · show s.d.length + frW s.fr ≤ _; unfold wtW; omega
    · rw [wt_add]; have := putL_len tag b; omega
theorem bodyV_small {v : VV} (h : SmallV v) : (bodyV v).2.1.length ≤ 300 := by
  have h1 := h.b
  have h2 := h.t
  have h3 := (putN_len v.n h.n.1 h.n.2).2
  have h4 := put_len v.t
  unfold bodyV
  split
  · show (putN v.n).length ≤ _; omega
  · split
    · show (putN v.n).length ≤ _; omega
    · split
      · show [if v.is then (255 : UInt8) else 0].length ≤ _; simp
      · split
        · exact h1
        · split
          · show (if askedM v.t v.n = 0 then v.t else []).length ≤ _; split <;> first | omega | simp
          · split
            · show (putM v.t).length ≤ _; omega
            · split
              · show (if inT v.n then bodyL (ofM v.n) else []).length ≤ _
                split
                · exact Nat.le_trans (Nat.le_of_eq (show (bodyL (ofM v.n)).length = 15 from rfl)) (by decide)
                · simp
              · show (bitsL v.n).length ≤ _
                unfold bitsL
                split
                · simp
                · rw [flags_len (by omega)]
                  have := (bl_is (m := v.n.toNat) (by omega)).2
                  omega
theorem wt_do {v : VV} (h : SmallV v) (s : W8) : wtW (doW v s) ≤ wtW s + 400 := by
  have hb := h.b
  unfold doW
  split
  · unfold openW
    split
    · omega
    · split
      · show s.d.length + frW s.fr ≤ _; unfold wtW; omega
      · split
        · show s.d.length + frW s.fr ≤ _; unfold wtW; omega
        · show s.d.length + frW _ ≤ _
          rw [frW_cons]
          unfold wtW
          simp [sumL]; omega
  · split
    · unfold closeV
      split
      · omega
      · obtain ⟨fr, d, k⟩ := s
        cases fr with
        | nil => show d.length + frW [] ≤ d.length + frW [] + _; omega
        | cons x fr =>
          have h1 := wt_put x.1 (bodyF x) 0 ⟨fr, d, k⟩
          rw [bodyF_len] at h1
          refine Nat.le_trans h1 ?_
          show d.length + frW fr + _ + _ ≤ d.length + frW (x :: fr) + _
          rw [frW_cons]
          omega
    · split
      · unfold rawW
        split
        · rw [wt_add]; omega
        · rw [wt_fail]; omega
      · have h1 := wt_put (bodyV v).1 (bodyV v).2.1 (bodyV v).2.2 s
        have h2 := bodyV_small h
        omega
/-! ### the rows -/
theorem pad_mem {m : Nat} {r : List (List (List UInt8))} {x : List (List UInt8)} (h : x ∈ padR m r) : x ∈ r ∨ x = [] := by
  unfold padR at h
  rcases List.mem_append.1 h with h | h
  · exact .inl h
  · exact .inr (List.eq_of_mem_replicate h)
theorem at_mem (r : List (List (List UInt8))) (j : Nat) : r.getD j [] ∈ r ∨ r.getD j [] = [] := by
  rw [List.getD_eq_getElem?_getD]
  cases e : r[j]? with
  | none => exact .inr rfl
  | some x => exact .inl (List.mem_of_getElem? e)
/-- each row is an old one, or empty, or the innermost one with one element more -/
def Grown (r r' : R8) : Prop := (r'.rows.length ≤ max r.rows.length (r'.tags.length + 1)) ∧ ∀ x ∈ r'.rows, x ∈ r.rows ∨ x = [] ∨ ∃ y b, (y ∈ r.rows ∨ y = []) ∧ x = y ++ [b] ∧ x = r'.rows.getD r'.tags.length []
theorem grown_rows {r r' : R8} (h : r'.rows = r.rows) : Grown r r' := ⟨by rw [h]; omega, fun x hx => .inl (h ▸ hx)⟩
theorem grown_add (b : List UInt8) (r : R8) : Grown r (raddS b r) := by
  have hp : r.tags.length < (padR (r.tags.length + 1) r.rows).length := by rw [pad_len]; omega
  refine ⟨?_, fun x hx => ?_⟩
  · show (List.set _ _ _).length ≤ max _ (r.tags.length + 1)
    rw [List.length_set, pad_len]
    omega
  · rcases List.mem_or_eq_of_mem_set hx with h | h
    · rcases pad_mem h with h | h
      · exact .inl h
      · exact .inr (.inl h)
    · refine .inr (.inr ⟨_, b, ?_, h, ?_⟩)
      · rw [pad_get]; exact at_mem _ _
      · show x = List.getD (List.set _ _ _) r.tags.length []
        rw [set_get _ _ _ _ hp, if_pos rfl]
        exact h
theorem grown_put (t : Int) (b : List UInt8) (r : R8) : Grown r (rputS t b r) := by
  unfold rputS
  split
  · exact grown_rows rfl
  · exact grown_add _ r
theorem grown_do (v : VV) (r : R8) : Grown r (rdoS v r) := by
  unfold rdoS
  split
  · exact grown_rows rfl
  · split
    · unfold ropenS
      split
      · exact grown_rows rfl
      · split
        · exact grown_rows rfl
        · refine ⟨?_, fun x hx => ?_⟩
          · show (List.set _ _ _).length ≤ max _ ((r.tags ++ [v.n]).length + 1)
            rw [List.length_set, pad_len, List.length_append, List.length_singleton]
            omega
          · rcases List.mem_or_eq_of_mem_set hx with h | h
            · rcases pad_mem h with h | h
              · exact .inl h
              · exact .inr (.inl h)
            · exact .inr (.inl h)
    · split
      · unfold rcloseS
        split
        · exact grown_rows rfl
        · exact grown_put _ _ ⟨_, r.rows, r.e⟩
      · split
        · split
          · exact grown_rows rfl
          · exact grown_add _ r
        · split
          · exact grown_rows rfl
          · exact grown_put _ _ r
theorem frW_mem {fr : List (Int × List (List UInt8))} {x : Int × List (List UInt8)} (h : x ∈ fr) : sumL x.2 ≤ frW fr := by
  induction fr with
  | nil => cases h
  | cons y fr ih =>
    rw [frW_cons]
    rcases List.mem_cons.1 h with rfl | h
    · omega
    · have := ih h; omega
theorem active_sum {r : R8} {s : W8} (h : Same8 r s) : sumL (r.rows.getD r.tags.length []) ≤ wtW s := by
  have hl : r.tags.length = s.fr.length := by rw [h.tags]; simp
  obtain ⟨fr, d, k⟩ := s
  cases fr with
  | nil =>
    rw [hl]
    show sumL (r.rows.getD 0 []) ≤ _
    rw [← flat_len, h.row0]
    unfold wtW
    omega
  | cons x fr =>
    have hr := h.row fr.length (by simp)
    rw [hl]
    show sumL (r.rows.getD (fr.length + 1) []) ≤ _
    rw [hr]
    have e : ((x :: fr).map Prod.snd).reverse.getD fr.length [] = x.2 := by simp [List.getD_eq_getElem?_getD]
    show sumL (((x :: fr).map Prod.snd).reverse.getD fr.length []) ≤ _
    rw [e]
    have := frW_mem (fr := x :: fr) (x := x) List.mem_cons_self
    unfold wtW
    show _ ≤ d.length + frW (x :: fr)
    omega
/-- both writers behind i values -/
structure Inv8 (i : Nat) (r : R8) (s : W8) : Prop where
  same : Same8 r s
  w : wtW s ≤ 400 * i
  rows : ∀ x ∈ r.rows, x.length ≤ i ∧ sumL x ≤ 400 * i
  n : r.rows.length ≤ 18
theorem inv_zero : Inv8 0 ⟨[], [], 0⟩ ⟨[], [], 0⟩ := ⟨same_zero, by decide, fun _ h => (by cases h), by decide⟩
theorem inv_do {i : Nat} {r : R8} {s : W8} (h : Inv8 i r s) {v : VV} (hv : SmallV v) : Inv8 (i + 1) (rdoS v r) (doW v s) := by
  have hs := same_do h.same v
  have hw := wt_do hv s
  have hg := grown_do v r
  have h0 := h.w
  have hl : (rdoS v r).tags.length ≤ 16 := by rw [hs.tags]; simpa using hs.lim
  refine ⟨hs, by omega, fun x hx => ?_, ?_⟩
  · rcases hg.2 x hx with h1 | h1 | ⟨y, b, h1, h2, h3⟩
    · have := h.rows x h1; omega
    · subst h1; simp [sumL]
    · have ha := active_sum hs
      rw [← h3] at ha
      refine ⟨?_, by omega⟩
      rw [h2, List.length_append, List.length_singleton]
      rcases h1 with h1 | h1
      · have := h.rows y h1; omega
      · subst h1; simp
  · have := hg.1
    have := h.n
    omega
theorem inv_fail {i : Nat} {r : R8} {s : W8} (h : Inv8 i r s) (e : Nat) : Inv8 i ⟨r.tags, r.rows, if r.e = 0 then e else r.e⟩ (failW e s) := by
  have hs := h.same
  refine ⟨?_, by rw [wt_fail]; exact h.w, h.rows, h.n⟩
  unfold failW
  rw [hs.e]
  split
  · exact ⟨hs.tags, rfl, hs.row0, hs.row, hs.len, hs.known, hs.lim⟩
  · exact ⟨hs.tags, rfl, hs.row0, hs.row, hs.len, hs.known, hs.lim⟩
theorem inv_okW {i : Nat} {r : R8} {s : W8} (h : Inv8 i r s) (hi : i ≤ 100) : OkW s := by
  have hw := h.w
  refine ⟨h.same.lim, fun x hx => ?_, by unfold wtW at hw; omega⟩
  obtain ⟨j, hj⟩ := List.mem_iff_getElem?.1 hx
  have hjl := (List.getElem?_eq_some_iff.1 hj).1
  have hr := h.same.row (s.fr.length - 1 - j) (by omega)
  have e : (s.fr.map Prod.snd).reverse.getD (s.fr.length - 1 - j) [] = x.2 := by
    rw [List.getD_eq_getElem?_getD, List.getElem?_reverse (by simp; omega)]
    simp only [List.length_map, List.getElem?_map]
    rw [show s.fr.length - 1 - (s.fr.length - 1 - j) = j by omega, hj]
    rfl
  rw [e] at hr
  have hs := frW_mem hx
  unfold wtW at hw
  refine ⟨?_, by omega⟩
  rcases at_mem r.rows (s.fr.length - 1 - j + 1) with h1 | h1
  · have := (h.rows _ h1).1
    rw [hr] at this
    omega
  · rw [hr] at h1
    rw [h1]; simp
theorem inv_okR {i : Nat} {r : R8} {s : W8} (h : Inv8 i r s) (hi : i ≤ 100) : OkRD r := by
  have hl : r.tags.length = s.fr.length := by rw [h.same.tags]; simp
  have hlim := h.same.lim
  have hn := h.n
  refine ⟨⟨by omega, by omega, fun x hx => by have := h.rows x hx; omega⟩, fun j => ?_, fun x hx => ?_, h.same.len⟩
  · rcases at_mem r.rows j with h1 | h1
    · have := h.rows _ h1; omega
    · rw [h1]; simp [sumL]
  · rw [h.same.tags] at hx
    obtain ⟨y, hy, rfl⟩ := List.mem_map.1 (List.mem_reverse.1 hx)
    exact known_bd (made_known (h.same.known y hy))
end Am
end Go.Proofs.YtjckfbpdieijeaaGreatDoor

/- Chapter 8: the reader as one thing; what it reads of itself. -/
namespace Go.Proofs.YtjckfbpdieijeaaGreatDoor
set_option linter.unusedVariables false
namespace Am
open Go.RowKit
set_option maxRecDepth 100000

def rdE (l : List (List UInt8)) (k : Nat) (z : Nat × Option Nat) : List (Option Nat × Res) := [(some z.1, .blk 2 (fl [.os 1 z.2 0 l.length 1, .err k])), (z.2, .blk l.length (lbF l))]
/-- a reader: what is left of the elements that it has entered, and its error -/
def rdO (n : Nat) (l : List (List UInt8)) (k : Nat) : Option Nat × Res := objE n (fun z : Nat × Option Nat => z.1) (rdE l k)
section
variable {P : Program} {G : Gh} {s : AS} {c : Code} {R : Exit → AS → Prop} {n k : Nat} {l : List (List UInt8)}
theorem code_openR0 (i : Nat) (hi : s.H[i]? = some (rdO n l k)) (h : ∀ gl, ACode P G c ⟨s.env, s.b, s.H.set i (some n, .blk 2 (fl [.os s.H.length gl 0 l.length 1, .err k])) ++ [(gl, .blk l.length (lbF l))]⟩ R) : ACode P G c s R := by
  have hlt := (List.getElem?_eq_some_iff.1 hi).1
  refine code_unpack i hi fun z hz => ?_
  obtain ⟨n', gl⟩ := z
  obtain rfl : n' = n := hz
  refine code_ent (weakH i 2 (fl [.os s.H.length gl 0 l.length 1, .err k]) (n := 2) (g := some n') (f := fl [.os 1 gl 0 l.length 1, .err k]) ?_ (Nat.le_refl _) fun j hj => ?_) ?_
  · show (s.H.set i _ ++ _)[i]? = _
    rw [List.getElem?_append_left (by simpa using hlt)]
    simp [hlt]
  · rcases j with _ | _ | j
    · exact CEnt.osI rfl
    · exact CEnt.refl _
    · omega
  · have e : (s.H.set i (some n', Res.blk 2 (fl [.os 1 gl 0 l.length 1, .err k])) ++ [(gl, Res.blk l.length (lbF l))]).set i (some n', .blk 2 (fl [.os s.H.length gl 0 l.length 1, .err k])) = s.H.set i (some n', .blk 2 (fl [.os s.H.length gl 0 l.length 1, .err k])) ++ [(gl, .blk l.length (lbF l))] := by
      rw [List.set_append_left _ _ (by simpa using hlt), List.set_set]
    have := h gl
    rw [← e] at this
    exact this
theorem closeR0 (n k : Nat) (l : List (List UInt8)) (i j : Nat) {gl : Option Nat} {N : Nat} {f F : Nat → CV} (hi : s.H[i]? = some (some n, .blk 2 f)) (hj : s.H[j]? = some (gl, .blk N F)) (hij : Nat.beq i j = false) (h0 : CEnt (f 0) (.os 1 gl 0 l.length 1)) (h1 : CEnt (f 1) (.err k)) (hN : l.length ≤ N) (hF : ∀ a, a < l.length → CEnt (F a) (lbF l a)) :
    EntS G s ⟨s.env, s.b, (s.H.set i (rdO n l k)).set j (none, .dead)⟩ := by
  have hij := Nat.ne_of_beq_eq_false hij
  have hil := (List.getElem?_eq_some_iff.1 hi).1
  have hjl := (List.getElem?_eq_some_iff.1 hj).1
  refine EntS.hrel fun h => ?_
  have h2 := h.weak (F := fl [.os 1 gl 0 l.length 1, .err k]) hi (Nat.le_refl _) fun a ha => by
    rcases a with _ | _ | a
    · exact h0
    · exact h1
    · omega
  have h3 := h2.weak (i := j) (F := lbF l) (by rw [List.getElem?_set_ne hij]; exact hj) hN hF
  have h4 := h3.closeN (gd := fun z : Nat × Option Nat => z.1) (E := rdE l k) (n, gl) i [j] (by simp [hij]) (by simp [hil, hjl]) (by
    simp only [pickL, List.map_cons, List.map_nil, List.getD_eq_getElem?_getD]
    rw [List.getElem?_set_ne (Ne.symm hij)]
    simp [hil, hjl, rdE])
  have e : killL (((s.H.set i (some n, Res.blk 2 (fl [CV.os 1 gl 0 l.length 1, CV.err k]))).set j (gl, Res.blk l.length (lbF l))).set i (objE n (fun z : Nat × Option Nat => z.1) (rdE l k))) [j] = (s.H.set i (rdO n l k)).set j (none, .dead) := by
    show ((((s.H.set i _).set j _).set i _).set j _) = _
    rw [List.set_comm _ _ (Ne.symm hij), List.set_set, List.set_set]
    rfl
  rw [← e]
  exact h4
theorem code_openR {env : List (Nat × CV)} {b0 : Nat → CV} {H : List (Option Nat × Res)} (i : Nat) (hi : H[i]? = some (rdO n l k)) (h : ∀ gl, ACode P G c ⟨env, b0, H.set i (some n, .blk 2 (fl [.os H.length gl 0 l.length 1, .err k])) ++ [(gl, .blk l.length (lbF l))]⟩ R) : ACode P G c ⟨env, b0, H⟩ R := code_openR0 i hi h
theorem closeR {env : List (Nat × CV)} {b0 : Nat → CV} {H : List (Option Nat × Res)} (n k : Nat) (l : List (List UInt8)) (i j : Nat) {gl : Option Nat} {N : Nat} {f F : Nat → CV} (hi : H[i]? = some (some n, .blk 2 f)) (hj : H[j]? = some (gl, .blk N F)) (hij : Nat.beq i j = false) (h0 : CEnt (f 0) (.os 1 gl 0 l.length 1)) (h1 : CEnt (f 1) (.err k)) (hN : l.length ≤ N) (hF : ∀ a, a < l.length → CEnt (F a) (lbF l a)) :
    EntS G ⟨env, b0, H⟩ ⟨env, b0, (H.set i (rdO n l k)).set j (none, .dead)⟩ := closeR0 n k l i j hi hj hij h0 h1 hN hF
end
/-- what is left of the innermost element -/
def nowL (l : List (List UInt8)) : List UInt8 := l.getD (l.length - 1) []
def moreM (l : List (List UInt8)) (k : Nat) : Bool := decide (k = 0) && decide (0 < (nowL l).length)
theorem now_ac {gs : List Nat} (n : Nat) (l : List (List UInt8)) (k : Nat) (hl : 0 < l.length ∧ l.length ≤ 1000000) : AC gs Tryz.prog 68 [rdO n l k] [.op 0 (some n) 0] (fun r H' => r = bsC (nowL l) ∧ H' = [rdO n l k]) := by
  refine ac_of 15 Tryz.func68 rfl rfl rfl (fun al w0 F0 St0 => ?_)
  refine code_openR 0 rfl fun gl => ?_
  refine jcr ?_
  refine jq jrm ?_
  refine seq_nil ?_
  refine jcs ?_
  skip
  refine jcd (.rd 0 (.rd 1 (.rd 2 (.rd 3 (.rd 4 (.rd 5 (.rd 6 (.rd 7 (.rd 8 (.rd 9 (.rd 10 (.rd 11 (.rd 12 .done))))))))))))) ?_
  refine jyq jrm ?_
  refine jyq jrnc ?_
  refine jyq (jrfa 0 1 false) ?_
  refine jyo jrdo ?_
  refine jyq jrm ?_
  refine jyq jrnc ?_
  refine jyq (jrfa 0 1 false) ?_
  refine jyo jrdo ?_
  refine jyq jrl ?_
  refine jyq jra ?_
  refine jyq (jri (i := (l.length - 1)) (hz := by omega)) ?_
  refine jyo jrdo ?_
  refine jyq jrm ?_
  refine jyd ?_
  refine jtn ?_
  refine code_ret ?_
  exact end_pack (gd := fun z : Nat × Option Nat => z.1) (E := rdE l k) (.inl rfl) _ (n, gl) [0, 1] (by decide) rfl (res_1 rfl (arv_tmp rfl)) ⟨rfl, rfl⟩
theorem fail08_ac {gs : List Nat} (n : Nat) (l : List (List UInt8)) (k e : Nat) : AC gs Tryz.prog 39 [rdO n l k] [.op 0 (some n) 0, .err e] (fun r H' => r = .c (.tuple #[]) ∧ H' = [rdO n l (if k = 0 then e else k)]) := by
  refine ac_of 13 Tryz.func39 rfl rfl rfl (fun al w0 F0 St0 => ?_)
  refine code_openR 0 rfl fun gl => ?_
  refine jcr ?_
  refine jq jrm ?_
  refine jq jrnc ?_
  refine jq (jrfa 1 1 false) ?_
  refine jqo jrdo ?_
  refine jq jre ?_
  refine seq_nil ?_
  refine jcc (fun h161 => ?_) fun h161 => ?_
  rotate_left
  · refine code_skip ?_
    rw [if_neg (by omega)]
    exact end_pack (gd := fun z : Nat × Option Nat => z.1) (E := rdE l k) (.inr rfl) _ (n, gl) [0, 1] (by decide) rfl (res_0 rfl) ⟨rfl, rfl⟩
  refine jcg ?_
  refine jq jrm ?_
  refine jq jrm ?_
  refine jq jrnc ?_
  refine jq (jrfa 1 1 false) ?_
  refine jqm (jmstF 1 (fl [.os 1 gl 0 l.length 1, .err e]) ?_ ?_)
  · exact (fun j hj => by rcases j with _ | _ | j <;> exact CEnt.refl _)
  refine seq_nil ?_
  rw [if_pos (by omega)]
  exact end_pack (gd := fun z : Nat × Option Nat => z.1) (E := rdE l e) (.inr rfl) _ (n, gl) [0, 1] (by decide) rfl (res_0 rfl) ⟨rfl, rfl⟩
theorem err08_ac {gs : List Nat} (n : Nat) (l : List (List UInt8)) (k : Nat) : AC gs Tryz.prog 22 [rdO n l k] [.op 0 (some n) 0] (fun r H' => r = .err k ∧ H' = [rdO n l k]) := by
  refine ac_of 7 Tryz.func22 rfl rfl rfl (fun al w0 F0 St0 => ?_)
  refine code_openR 0 rfl fun gl => ?_
  refine jcr ?_
  refine jq jrm ?_
  refine seq_nil ?_
  skip
  refine jcr ?_
  refine jq jrm ?_
  refine jq jrnc ?_
  refine jq (jrfa 1 1 false) ?_
  refine jqo jrdo ?_
  refine jq jrm ?_
  refine seq_nil ?_
  refine code_ret ?_
  exact end_pack (gd := fun z : Nat × Option Nat => z.1) (E := rdE l k) (.inl rfl) _ (n, gl) [0, 1] (by decide) rfl (res_1 rfl (arv_tmp rfl)) ⟨rfl, rfl⟩
theorem more_pos {l : List (List UInt8)} {k : Nat} (h : moreM l k = true) : k = 0 ∧ 0 < (nowL l).length := by simpa [moreM] using h
theorem more_ac {gs : List Nat} (n : Nat) (l : List (List UInt8)) (k : Nat) (hl : 0 < l.length ∧ l.length ≤ 1000000) : AC gs Tryz.prog 30 [rdO n l k] [.op 0 (some n) 0] (fun r H' => r = .c (.bool (moreM l k)) ∧ H' = [rdO n l k]) := by
  refine ac_of 14 Tryz.func30 rfl rfl rfl (fun al w0 F0 St0 => ?_)
  refine code_openR 0 rfl fun gl => ?_
  refine jcr ?_
  refine jq jrm ?_
  refine seq_nil ?_
  skip
  refine jcr ?_
  refine jq jrm ?_
  refine jq jrnc ?_
  refine jq (jrfa 1 1 false) ?_
  refine jqo jrdo ?_
  refine seq_ent (closeR n k l 0 1 rfl rfl rfl (CEnt.refl _) (CEnt.refl _) (Nat.le_refl _) (fun _ _ => CEnt.refl _)) ?_
  refine jq jre ?_
  refine jq jrm ?_
  refine jqsp 8 (fun g173 => ?_) fun g173 => ?_
  rotate_left
  · refine jqs ?_
    refine jqs ?_
    refine jqs ?_
    refine jqs ?_
    refine jq jrpF ?_
    refine jq jrm ?_
    refine seq_nil ?_
    refine code_ret ?_
    exact end_H (.inl rfl) rfl (res_1 rfl (arv_tmp rfl)) (CEnt.bool (by unfold moreM; (simp [g173]; done)))
  refine jq jrm ?_
  refine jqm (jmcH 0 (now_ac n l k hl) ?_)
  rintro _ _ ⟨rfl, rfl⟩
  refine ⟨_, _, rfl, CEnt.refl _, ?_⟩
  refine jq jrl ?_
  refine jq jrc ?_
  refine jq jrpT ?_
  refine jq jrm ?_
  refine seq_nil ?_
  refine code_ret ?_
  exact end_H (.inl rfl) rfl (res_1 rfl (arv_tmp rfl)) (CEnt.bool (by unfold moreM; (simp [g173]; done)))
theorem peek_ac {gs : List Nat} (n : Nat) (l : List (List UInt8)) (k : Nat) (hl : 0 < l.length ∧ l.length ≤ 1000000) : AC gs Tryz.prog 31 [rdO n l k] [.op 0 (some n) 0] (fun r H' => r = .c (.int .i64 (if moreM l k = true then ((nowL l).getD 0 0).toNat else 0 : Nat)) ∧ H' = [rdO n l k]) := by
  refine ac_of 11 Tryz.func31 rfl rfl rfl (fun al w0 F0 St0 => ?_)
  refine jcr ?_
  refine jq jrm ?_
  refine seq_nil ?_
  refine jcs ?_
  refine jcr ?_
  refine jq jrm ?_
  refine jqm (jmcH 0 (more_ac n l k hl) ?_)
  rintro _ _ ⟨rfl, rfl⟩
  refine ⟨_, _, rfl, CEnt.refl _, ?_⟩
  refine jq jrn ?_
  refine seq_nil ?_
  refine jcc (fun h177 => ?_) fun h177 => ?_
  · refine jcr ?_
    refine jq jrm ?_
    refine seq_nil ?_
    refine code_ret (jtr ?_)
    rw [if_neg (by simpa using h177)]
    exact end_H (.inl rfl) rfl (res_1 rfl (arv_tmp rfl)) (CEnt.refl _)
  refine code_skip (jtn ?_)
  obtain ⟨hk, hp⟩ := more_pos (l := l) (k := k) (by simpa using h177)
  refine jcr ?_
  refine jq jrm ?_
  refine jqm (jmcH 0 (now_ac n l k hl) ?_)
  rintro _ _ ⟨rfl, rfl⟩
  refine ⟨_, _, rfl, CEnt.refl _, ?_⟩
  refine jq (jri (i := 0)) ?_
  refine jq jrdr ?_
  refine jq (jrv8 .i64) ?_
  refine jq jrm ?_
  refine seq_nil ?_
  refine code_ret ?_
  rw [if_pos (by simpa using h177)]
  exact end_H (.inl rfl) rfl (res_1 rfl (arv_tmp rfl)) (CEnt.refl _)
end Am
end Go.Proofs.YtjckfbpdieijeaaGreatDoor

/- Chapter 8: the reader's next element. -/
namespace Go.Proofs.YtjckfbpdieijeaaGreatDoor
set_option linter.unusedVariables false
namespace Am
variable {gs : List Nat} [OkG gs]
open Go.RowKit
set_option maxRecDepth 100000

structure NR where
  l : List (List UInt8)
  k : Nat
  tag : Nat
  body : List UInt8
  raw : List UInt8
  is : Bool
/-- the next element of a tag -/
def nextR (tag : Int) (l : List (List UInt8)) (k : Nat) : NR :=
  if k ≠ 0 then ⟨l, k, 0, [], [], false⟩ else
  if (nextM (nowL l)).e ≠ 0 then ⟨l, (nextM (nowL l)).e, 0, [], [], false⟩ else
  if tag ≠ 0 ∧ ((nextM (nowL l)).tag : Int) ≠ tag then ⟨l, 5, 0, [], [], false⟩ else
  ⟨l.set (l.length - 1) (nextM (nowL l)).rest, 0, (nextM (nowL l)).tag, (nextM (nowL l)).body, (nowL l).take ((nowL l).length - (nextM (nowL l)).rest.length), true⟩
theorem lb_set {l : List (List UInt8)} {i : Nat} {x : List UInt8} {j : Nat} (hj : j < l.length) : CEnt (updF (lbF l) i [bsC x] j) (lbF (l.set i x) j) := by
  refine CEnt.of_eq ?_
  rw [updF_get]
  simp only [lbF, List.length_singleton, List.getD_eq_getElem?_getD, List.getElem?_set]
  by_cases h : i = j
  · subst h
    rw [if_pos (by omega), if_pos rfl, if_pos hj, Nat.sub_self]
    rfl
  · rw [if_neg (by omega), if_neg h]
theorem nextR_ac (n : Nat) (l : List (List UInt8)) (k : Nat) (tag : Int) (hl : 0 < l.length ∧ l.length ≤ 1000000) (hb : (nowL l).length ≤ 10000000) : AC gs Tryz.prog 78 [rdO n l k] [.op 0 (some n) 0, .c (.int .i64 tag)]
    (fun r H' => r = .tup 3 (fl [elC (nextR tag l k).tag (nextR tag l k).body, bsC (nextR tag l k).raw, .c (.bool (nextR tag l k).is)]) ∧ H' = [rdO n (nextR tag l k).l (nextR tag l k).k]) := by
  have hnb := nextM_bd (nowL l)
  refine ac_of 67 Tryz.func78 rfl rfl rfl (fun al w0 F0 St0 => ?_)
  refine jcr ?_
  refine jqe (jeal (n := 2) zr68 rfl fun p1 => ?_)
  refine jq jrm ?_
  refine jq jrm ?_
  refine seq_nil ?_
  refine jcs ?_
  refine code_openR 0 rfl fun gl => ?_
  refine jcr ?_
  refine jq jrm ?_
  refine jq jrnc ?_
  refine jq (jrfa 1 1 false) ?_
  refine jqo jrdo ?_
  refine jq jre ?_
  refine seq_nil ?_
  refine jcc (fun h185 => ?_) fun h185 => ?_
  · refine code_ent (closeR n k l 0 2 rfl rfl rfl (CEnt.osI rfl) (CEnt.refl _) (Nat.le_refl _) (fun _ _ => CEnt.refl _)) ?_
    dsimp only [List.set_cons_zero, List.set_cons_succ, List.cons_append, List.nil_append, List.length_cons, List.length_nil, Nat.zero_add, Nat.reduceAdd]
    refine jcr ?_
    refine jq (rd_build (n := 2) rfl zr68 pl68 rfl rfl) ?_
    refine jqm (jmst 2 ?_)
    refine jq jrm ?_
    refine jq jrm ?_
    refine seq_nil ?_
    refine code_ret (jtr ?_)
    have hN : nextR tag l k = ⟨l, k, 0, [], [], false⟩ := by unfold nextR; rw [if_pos (by omega)]
    rw [hN]
    refine end_H (.inl rfl) rfl (res_3 rfl (javA 2) javt javt) ?_
    exact CEnt.tup3 (CEnt.agg2 (CEnt.refl _) CEnt.nilB) CEnt.nilB (CEnt.refl _)
  refine code_skip (jtn ?_)
  obtain rfl : k = 0 := by omega
  refine code_ent (closeR n 0 l 0 2 rfl rfl rfl (CEnt.osI rfl) (CEnt.refl _) (Nat.le_refl _) (fun _ _ => CEnt.refl _)) ?_
  dsimp only [List.set_cons_zero, List.set_cons_succ, List.cons_append, List.nil_append, List.length_cons, List.length_nil, Nat.zero_add, Nat.reduceAdd]
  refine jcr ?_
  refine jq jrm ?_
  refine jqm (jmcH 0 (now_ac n l 0 hl) ?_)
  rintro _ _ ⟨rfl, rfl⟩
  refine ⟨_, _, rfl, CEnt.refl _, ?_⟩
  refine jqe (jecP (next_ac (nowL l) hb) ?_)
  refine jq jrm ?_
  refine jq jrx ?_
  refine jq jrx ?_
  refine jq jrx ?_
  refine jqe (jeal (n := 2) zr68 rfl fun p3 => ?_)
  refine jqm (jmst 2 ?_)
  refine jq jrm ?_
  refine jq jrm ?_
  refine seq_nil ?_
  refine jcs ?_
  refine code_block ?_
  refine jcr ?_
  refine jq jrm ?_
  refine jq jre ?_
  refine jq jrm ?_
  refine seq_nil ?_
  refine jcc (fun h190 => ?_) fun h190 => ?_
  · refine code_openR 0 rfl fun gl2 => ?_
    refine jcg ?_
    refine jq jrm ?_
    refine jq jrm ?_
    refine jq jrnc ?_
    refine jq (jrfa 1 1 false) ?_
    refine jqm (jmstF 1 (fl [.os 4 gl2 0 l.length 1, .err (nextM (nowL l)).e]) ?_ ?_)
    · exact (fun j hj => by rcases j with _ | _ | j <;> exact CEnt.refl _)
    refine seq_nil ?_
    refine jbn (jtn ?_)
    first
      | refine code_ent (closeR n (nextM (nowL l)).e l 0 4 rfl rfl rfl (CEnt.osI rfl) (CEnt.refl _) (Nat.le_refl _) (fun _ _ => CEnt.refl _)) ?_
      | refine code_ent (closeR n 5 l 0 4 rfl rfl rfl (CEnt.osI rfl) (CEnt.refl _) (Nat.le_refl _) (fun _ _ => CEnt.refl _)) ?_
    refine jcr ?_
    refine jq (rd_build (n := 2) rfl zr68 pl68 rfl rfl) ?_
    refine jqm (jmst 2 ?_)
    refine jq jrm ?_
    refine jq jrm ?_
    refine seq_nil ?_
    refine code_ret ?_
    first
      | (have hN : nextR tag l 0 = ⟨l, (nextM (nowL l)).e, 0, [], [], false⟩ := by unfold nextR; rw [if_neg (by omega), if_pos (by omega)])
      | (have hN : nextR tag l 0 = ⟨l, 5, 0, [], [], false⟩ := by unfold nextR; rw [if_neg (by omega), if_neg (by omega), if_pos (by omega)])
    rw [hN]
    refine end_H (.inl rfl) rfl (res_3 rfl (javA 2) javt javt) ?_
    exact CEnt.tup3 (CEnt.agg2 (CEnt.refl _) CEnt.nilB) CEnt.nilB (CEnt.refl _)
  refine jcr ?_
  refine jq jrm ?_
  refine jq jrc ?_
  refine jq jrm ?_
  refine jqsp 56 (fun g192 => ?_) fun g192 => ?_
  rotate_left
  · refine jqs ?_
    refine jqs ?_
    refine jqs ?_
    refine jqs ?_
    refine jq jrpF ?_
    refine jq jrm ?_
    refine seq_nil ?_
    refine jcF ?_
    refine jcr ?_
    refine jq jrm ?_
    refine jqm (jmcH 0 (now_ac n l 0 hl) ?_)
    rintro _ _ ⟨rfl, rfl⟩
    refine ⟨_, _, rfl, CEnt.refl _, ?_⟩
    refine jq jrm ?_
    refine seq_nil ?_
    refine jcs ?_
    refine code_openR 0 rfl fun gl2 => ?_
    refine jcdB 12 (.rd 0 (.rd 1 (.rd 2 (.rd 3 (.rd 4 (.rd 5 (.rd 6 (.rd 7 (.rd 8 (.rd 9 (.rd 10 (.rd 11 .done)))))))))))) ?_
    refine jyq jrm ?_
    refine jyq jrnc ?_
    refine jyq (jrfa 0 1 false) ?_
    refine jyo jrdo ?_
    refine jyq jrm ?_
    refine jyq jrnc ?_
    refine jyq (jrfa 0 1 false) ?_
    refine jyo jrdo ?_
    refine jyq jrl ?_
    refine jyq jra ?_
    refine jyq jrm ?_
    refine jyq (jri (i := (l.length - 1)) (hz := by omega)) ?_
    refine jyd ?_
    show ASeq _ _ _ _ _ _
    refine jqm (jmstF 1 (lbF (l.set (l.length - 1) (nextM (nowL l)).rest)) ?_ ?_)
    · exact (fun j hj => lb_set hj)
    refine seq_nil ?_
    refine jtn ?_
    refine jcs ?_
    refine code_ent (closeR n 0 (l.set (l.length - 1) (nextM (nowL l)).rest) 0 4 rfl rfl rfl (CEnt.osI (by simp)) (CEnt.refl _) (by simp) (fun _ _ => CEnt.refl _)) ?_
    dsimp only [List.set_cons_zero, List.set_cons_succ, List.cons_append, List.nil_append, List.length_cons, List.length_nil, Nat.zero_add, Nat.reduceAdd]
    refine code_ent (freeze 3 rfl) ?_
    refine code_ent (thawP 7 (m := 2) rfl rfl (by decide)) ?_
    refine jcdZ (.rd 0 (.rd 1 (.rd 2 (.rd 3 (.rd 4 (.rd 5 (.rd 6 (.rd 7 (.one 8 (.rd 9 (.rd 10 .done))))))))))) ?_
    refine jzq (jrdrA 2) ?_
    refine jzq jrm ?_
    refine jzq jrm ?_
    refine jzq jrl ?_
    refine jzq jrm ?_
    refine jzq jrl ?_
    refine jzq jra ?_
    refine jzq jrst ?_
    refine jzm (jmst 2 ?_)
    refine jzq jrm ?_
    refine jzq jrm ?_
    refine jzd ?_
    refine jtn ?_
    refine code_ret (jbr (jtr ?_))
    have hN : nextR tag l 0 = ⟨l.set (l.length - 1) (nextM (nowL l)).rest, 0, (nextM (nowL l)).tag, (nextM (nowL l)).body, (nowL l).take ((nowL l).length - (nextM (nowL l)).rest.length), true⟩ := by unfold nextR; rw [if_neg (by omega), if_neg (by omega), if_neg (by omega)]
    rw [hN]
    refine end_H (.inl rfl) rfl (res_3 rfl (javA 2) javt javt) ?_
    exact CEnt.tup3 (CEnt.agg2 (CEnt.refl _) (CEnt.refl _)) (CEnt.bs (by congr 1; omega)) (CEnt.refl _)
  refine jq (jrfa 0 1 false) ?_
  refine jqo jrdo ?_
  refine jq jrm ?_
  refine jq jrc ?_
  refine jq jrpT ?_
  refine jq jrm ?_
  refine seq_nil ?_
  refine jcc (fun h192 => ?_) fun h192 => ?_
  · refine code_openR 0 rfl fun gl2 => ?_
    refine jcg ?_
    refine jq jrm ?_
    refine jq (jrde 4) ?_
    refine jq jrnc ?_
    refine jq (jrfa 1 1 false) ?_
    refine jqm (jmstF 1 (fl [.os 4 gl2 0 l.length 1, .err 5]) ?_ ?_)
    · exact (fun j hj => by rcases j with _ | _ | j <;> exact CEnt.refl _)
    refine seq_nil ?_
    refine jbn (jtn ?_)
    first
      | refine code_ent (closeR n (nextM (nowL l)).e l 0 4 rfl rfl rfl (CEnt.osI rfl) (CEnt.refl _) (Nat.le_refl _) (fun _ _ => CEnt.refl _)) ?_
      | refine code_ent (closeR n 5 l 0 4 rfl rfl rfl (CEnt.osI rfl) (CEnt.refl _) (Nat.le_refl _) (fun _ _ => CEnt.refl _)) ?_
    refine jcr ?_
    refine jq (rd_build (n := 2) rfl zr68 pl68 rfl rfl) ?_
    refine jqm (jmst 2 ?_)
    refine jq jrm ?_
    refine jq jrm ?_
    refine seq_nil ?_
    refine code_ret ?_
    first
      | (have hN : nextR tag l 0 = ⟨l, (nextM (nowL l)).e, 0, [], [], false⟩ := by unfold nextR; rw [if_neg (by omega), if_pos (by omega)])
      | (have hN : nextR tag l 0 = ⟨l, 5, 0, [], [], false⟩ := by unfold nextR; rw [if_neg (by omega), if_neg (by omega), if_pos (by omega)])
    rw [hN]
    refine end_H (.inl rfl) rfl (res_3 rfl (javA 2) javt javt) ?_
    exact CEnt.tup3 (CEnt.agg2 (CEnt.refl _) CEnt.nilB) CEnt.nilB (CEnt.refl _)
  refine jcr ?_
  refine jq jrm ?_
  refine jqm (jmcH 0 (now_ac n l 0 hl) ?_)
  rintro _ _ ⟨rfl, rfl⟩
  refine ⟨_, _, rfl, CEnt.refl _, ?_⟩
  refine jq jrm ?_
  refine seq_nil ?_
  refine jcs ?_
  refine code_openR 0 rfl fun gl2 => ?_
  refine jcdB 12 (.rd 0 (.rd 1 (.rd 2 (.rd 3 (.rd 4 (.rd 5 (.rd 6 (.rd 7 (.rd 8 (.rd 9 (.rd 10 (.rd 11 .done)))))))))))) ?_
  refine jyq jrm ?_
  refine jyq jrnc ?_
  refine jyq (jrfa 0 1 false) ?_
  refine jyo jrdo ?_
  refine jyq jrm ?_
  refine jyq jrnc ?_
  refine jyq (jrfa 0 1 false) ?_
  refine jyo jrdo ?_
  refine jyq jrl ?_
  refine jyq jra ?_
  refine jyq jrm ?_
  refine jyq (jri (i := (l.length - 1)) (hz := by omega)) ?_
  refine jyd ?_
  show ASeq _ _ _ _ _ _
  refine jqm (jmstF 1 (lbF (l.set (l.length - 1) (nextM (nowL l)).rest)) ?_ ?_)
  · exact (fun j hj => lb_set hj)
  refine seq_nil ?_
  refine jtn ?_
  refine jcs ?_
  refine code_ent (closeR n 0 (l.set (l.length - 1) (nextM (nowL l)).rest) 0 4 rfl rfl rfl (CEnt.osI (by simp)) (CEnt.refl _) (by simp) (fun _ _ => CEnt.refl _)) ?_
  dsimp only [List.set_cons_zero, List.set_cons_succ, List.cons_append, List.nil_append, List.length_cons, List.length_nil, Nat.zero_add, Nat.reduceAdd]
  refine code_ent (freeze 3 rfl) ?_
  refine code_ent (thawP 7 (m := 2) rfl rfl (by decide)) ?_
  refine jcdZ (.rd 0 (.rd 1 (.rd 2 (.rd 3 (.rd 4 (.rd 5 (.rd 6 (.rd 7 (.one 8 (.rd 9 (.rd 10 .done))))))))))) ?_
  refine jzq (jrdrA 2) ?_
  refine jzq jrm ?_
  refine jzq jrm ?_
  refine jzq jrl ?_
  refine jzq jrm ?_
  refine jzq jrl ?_
  refine jzq jra ?_
  refine jzq jrst ?_
  refine jzm (jmst 2 ?_)
  refine jzq jrm ?_
  refine jzq jrm ?_
  refine jzd ?_
  refine jtn ?_
  refine code_ret (jbr (jtr ?_))
  have hN : nextR tag l 0 = ⟨l.set (l.length - 1) (nextM (nowL l)).rest, 0, (nextM (nowL l)).tag, (nextM (nowL l)).body, (nowL l).take ((nowL l).length - (nextM (nowL l)).rest.length), true⟩ := by unfold nextR; rw [if_neg (by omega), if_neg (by omega), if_neg (by omega)]
  rw [hN]
  refine end_H (.inl rfl) rfl (res_3 rfl (javA 2) javt javt) ?_
  exact CEnt.tup3 (CEnt.agg2 (CEnt.refl _) (CEnt.refl _)) (CEnt.bs (by congr 1; omega)) (CEnt.refl _)
end Am
end Go.Proofs.YtjckfbpdieijeaaGreatDoor

/- Chapter 8: the reader: Enter, Leave, End, Raw, Read. -/
namespace Go.Proofs.YtjckfbpdieijeaaGreatDoor
set_option linter.unusedVariables false
namespace Am
variable {gs : List Nat} [OkG gs]
open Go.RowKit
set_option maxRecDepth 100000

/-- an element is entered -/
def enterR (tag : Int) (l : List (List UInt8)) (k : Nat) : NR :=
  nextR tag l (if moreM l k = true ∧ madeM tag = false then 5 else k)
def enterL (tag : Int) (l : List (List UInt8)) (k : Nat) : List (List UInt8) := if (enterR tag l k).is = true then (enterR tag l k).l ++ [(enterR tag l k).body] else (enterR tag l k).l
theorem enter_ac (n : Nat) (l : List (List UInt8)) (k : Nat) (tag : Int) (hl : 0 < l.length ∧ l.length ≤ 1000000) (hb : (nowL l).length ≤ 10000000) : AC gs Tryz.prog 40 [rdO n l k] [.op 0 (some n) 0, .c (.int .i64 tag)]
    (fun r H' => r = .c (.bool (enterR tag l k).is) ∧ H' = [rdO n (enterL tag l k) (enterR tag l k).k]) := by
  have hnl : ∀ k, 0 < (nextR tag l k).l.length ∧ (nextR tag l k).l.length ≤ 1000000 := fun k => by
    unfold nextR
    split
    · exact hl
    · split
      · exact hl
      · split
        · exact hl
        · simp only [List.length_set]; exact hl
  refine ac_of 48 Tryz.func40 rfl rfl rfl (fun al w0 F0 St0 => ?_)
  refine jcr ?_
  refine jq jrm ?_
  refine seq_nil ?_
  refine jcs ?_
  refine code_openR 0 rfl fun gl => ?_
  refine jcr ?_
  refine jq jrm ?_
  refine jq jrnc ?_
  refine jq (jrfa 1 1 false) ?_
  refine jqo jrdo ?_
  refine seq_ent (closeR n k l 0 1 rfl rfl rfl (CEnt.osI rfl) (CEnt.refl _) (Nat.le_refl _) (fun _ _ => CEnt.refl _)) ?_
  refine jq jre ?_
  refine jq jrm ?_
  refine jqsp 13 (fun g204 => ?_) fun g204 => ?_
  rotate_left
  · refine jqs ?_
    refine jqs ?_
    refine jqs ?_
    refine jqs ?_
    refine jq jrpF ?_
    refine jq jrm ?_
    refine jqs ?_
    refine jqs ?_
    refine jqs ?_
    refine jq jrpF ?_
    refine seq_nil ?_
    refine jcF ?_
    refine code_skip (jtn ?_)
    first
      | (refine code_ent (closeR n 5 l 0 2 rfl rfl rfl (CEnt.osI rfl) (CEnt.refl _) (Nat.le_refl _) (fun _ _ => CEnt.refl _)) ?_; refine code_ent (pick_ent (H' := [rdO n l 5]) [0] (by decide) rfl) ?_; have hE : enterR tag l k = nextR tag l 5 := by unfold enterR; rw [if_pos (by simp_all [moreM, madeM])])
      | (refine code_ent (pick_ent (H' := [rdO n l k]) [0] (by decide) rfl) ?_; have hE : enterR tag l k = nextR tag l k := by unfold enterR; rw [if_neg (by simp_all [moreM, madeM])])
    refine jcr ?_
    refine jq jrm ?_
    refine jq jrm ?_
    refine jqm (jmcH 0 (nextR_ac n l _ tag hl hb) ?_)
    rintro _ _ ⟨rfl, rfl⟩
    refine ⟨_, _, rfl, CEnt.refl _, ?_⟩
    refine jq jrm ?_
    refine jq jrx ?_
    refine jq jrx ?_
    refine jq jrx ?_
    refine jqe (jeal (n := 2) zr68 rfl fun p2 => ?_)
    refine jqm (jmst 2 ?_)
    refine jq jrm ?_
    refine jq jrm ?_
    refine seq_nil ?_
    refine jcs ?_
    rw [← hE]
    have hel : 0 < (enterR tag l k).l.length ∧ (enterR tag l k).l.length ≤ 1000000 := by rw [hE]; exact hnl _
    refine jcr ?_
    refine jq jrm ?_
    refine seq_nil ?_
    refine jcc (fun h208 => ?_) fun h208 => ?_
    rotate_left
    · refine code_skip (jtn ?_)
      first
        | (refine code_ent (closeR n (enterR tag l k).k ((enterR tag l k).l ++ [(enterR tag l k).body]) 0 2 rfl rfl rfl (CEnt.osI (by simp)) (CEnt.refl _) (by simp) (fun _ _ => CEnt.refl _)) ?_; have hL : enterL tag l k = (enterR tag l k).l ++ [(enterR tag l k).body] := by unfold enterL; rw [if_pos (by simpa using h208)])
        | have hL : enterL tag l k = (enterR tag l k).l := by unfold enterL; rw [if_neg (by simpa using h208)]
      refine jcr ?_
      refine jq jrm ?_
      refine jq jrm ?_
      refine seq_nil ?_
      refine code_ret ?_
      rw [hL]
      exact end_H (.inl rfl) rfl (res_1 rfl (arv_tmp rfl)) (CEnt.refl _)
    refine code_ent (freeze 1 rfl) ?_
    refine code_ent (thawP 5 (m := 2) rfl rfl (by decide)) ?_
    dsimp only [List.set_cons_zero, List.set_cons_succ, List.cons_append, List.nil_append, List.length_cons, List.length_nil, Nat.zero_add, Nat.reduceAdd]
    refine code_openR 0 rfl fun gl3 => ?_
    refine jcdZ (.rd 0 (.rd 1 (.rd 2 (.rd 3 (.rd 4 (.rd 5 (.rd 6 (.one 7 (.one 8 (.rd 9 (.rd 10 (.one 11 .done)))))))))))) ?_
    refine jzq jrm ?_
    refine jzq jrm ?_
    refine jzq jrnc ?_
    refine jzq (jrfa 0 1 false) ?_
    refine jzo jrdo ?_
    refine jzq (jrfa 1 1 false) ?_
    refine jzq jrdr ?_
    refine jze (jebl 1 1 zr26 fun p3 => ?_)
    refine jzm (m_appendC (rowC_lb) (l2 := [(enterR tag l k).body]) rfl rfl rfl rfl (by omega) (fun _ _ => CEnt.refl _) (src_os rfl (.inl rfl) (by decide)) rfl (fun j hj => by rcases j with _|j <;> first | exact CEnt.refl _ | exact CEnt.int (by omega) | (exfalso; simp at hj <;> omega)) Tryz.underlying56 nu56 sz26 zr26 by26 rfl (by (simp; omega)) (by (simp; omega)) (leaf_flk rfl rfl) rfl rfl rfl (fun p4 => ?_))
    refine jzq jrnc ?_
    refine jzq (jrfa 0 1 false) ?_
    refine jzm (jmst 1 ?_)
    refine jzd ?_
    refine jtn ?_
    first
      | (refine code_ent (closeR n (enterR tag l k).k ((enterR tag l k).l ++ [(enterR tag l k).body]) 0 2 rfl rfl rfl (CEnt.osI (by simp)) (CEnt.refl _) (by simp) (fun _ _ => CEnt.refl _)) ?_; have hL : enterL tag l k = (enterR tag l k).l ++ [(enterR tag l k).body] := by unfold enterL; rw [if_pos (by simpa using h208)])
      | have hL : enterL tag l k = (enterR tag l k).l := by unfold enterL; rw [if_neg (by simpa using h208)]
    refine jcr ?_
    refine jq jrm ?_
    refine jq jrm ?_
    refine seq_nil ?_
    refine code_ret ?_
    rw [hL]
    exact end_H (.inl rfl) rfl (res_1 rfl (arv_tmp rfl)) (CEnt.refl _)
  refine jq jrm ?_
  refine jqm (jmcH 0 (now_ac n l k hl) ?_)
  rintro _ _ ⟨rfl, rfl⟩
  refine ⟨_, _, rfl, CEnt.refl _, ?_⟩
  refine jq jrl ?_
  refine jq jrc ?_
  refine jq jrpT ?_
  refine jq jrm ?_
  refine jqsp 19 (fun g204_2 => ?_) fun g204_2 => ?_
  rotate_left
  · refine jqs ?_
    refine jqs ?_
    refine jqs ?_
    refine jq jrpF ?_
    refine seq_nil ?_
    refine jcF ?_
    refine code_skip (jtn ?_)
    first
      | (refine code_ent (closeR n 5 l 0 2 rfl rfl rfl (CEnt.osI rfl) (CEnt.refl _) (Nat.le_refl _) (fun _ _ => CEnt.refl _)) ?_; refine code_ent (pick_ent (H' := [rdO n l 5]) [0] (by decide) rfl) ?_; have hE : enterR tag l k = nextR tag l 5 := by unfold enterR; rw [if_pos (by simp_all [moreM, madeM])])
      | (refine code_ent (pick_ent (H' := [rdO n l k]) [0] (by decide) rfl) ?_; have hE : enterR tag l k = nextR tag l k := by unfold enterR; rw [if_neg (by simp_all [moreM, madeM])])
    refine jcr ?_
    refine jq jrm ?_
    refine jq jrm ?_
    refine jqm (jmcH 0 (nextR_ac n l _ tag hl hb) ?_)
    rintro _ _ ⟨rfl, rfl⟩
    refine ⟨_, _, rfl, CEnt.refl _, ?_⟩
    refine jq jrm ?_
    refine jq jrx ?_
    refine jq jrx ?_
    refine jq jrx ?_
    refine jqe (jeal (n := 2) zr68 rfl fun p3 => ?_)
    refine jqm (jmst 2 ?_)
    refine jq jrm ?_
    refine jq jrm ?_
    refine seq_nil ?_
    refine jcs ?_
    rw [← hE]
    have hel : 0 < (enterR tag l k).l.length ∧ (enterR tag l k).l.length ≤ 1000000 := by rw [hE]; exact hnl _
    refine jcr ?_
    refine jq jrm ?_
    refine seq_nil ?_
    refine jcc (fun h208 => ?_) fun h208 => ?_
    rotate_left
    · refine code_skip (jtn ?_)
      first
        | (refine code_ent (closeR n (enterR tag l k).k ((enterR tag l k).l ++ [(enterR tag l k).body]) 0 2 rfl rfl rfl (CEnt.osI (by simp)) (CEnt.refl _) (by simp) (fun _ _ => CEnt.refl _)) ?_; have hL : enterL tag l k = (enterR tag l k).l ++ [(enterR tag l k).body] := by unfold enterL; rw [if_pos (by simpa using h208)])
        | have hL : enterL tag l k = (enterR tag l k).l := by unfold enterL; rw [if_neg (by simpa using h208)]
      refine jcr ?_
      refine jq jrm ?_
      refine jq jrm ?_
      refine seq_nil ?_
      refine code_ret ?_
      rw [hL]
      exact end_H (.inl rfl) rfl (res_1 rfl (arv_tmp rfl)) (CEnt.refl _)
    refine code_ent (freeze 1 rfl) ?_
    refine code_ent (thawP 5 (m := 2) rfl rfl (by decide)) ?_
    dsimp only [List.set_cons_zero, List.set_cons_succ, List.cons_append, List.nil_append, List.length_cons, List.length_nil, Nat.zero_add, Nat.reduceAdd]
    refine code_openR 0 rfl fun gl3 => ?_
    refine jcdZ (.rd 0 (.rd 1 (.rd 2 (.rd 3 (.rd 4 (.rd 5 (.rd 6 (.one 7 (.one 8 (.rd 9 (.rd 10 (.one 11 .done)))))))))))) ?_
    refine jzq jrm ?_
    refine jzq jrm ?_
    refine jzq jrnc ?_
    refine jzq (jrfa 0 1 false) ?_
    refine jzo jrdo ?_
    refine jzq (jrfa 1 1 false) ?_
    refine jzq jrdr ?_
    refine jze (jebl 1 1 zr26 fun p4 => ?_)
    refine jzm (m_appendC (rowC_lb) (l2 := [(enterR tag l k).body]) rfl rfl rfl rfl (by omega) (fun _ _ => CEnt.refl _) (src_os rfl (.inl rfl) (by decide)) rfl (fun j hj => by rcases j with _|j <;> first | exact CEnt.refl _ | exact CEnt.int (by omega) | (exfalso; simp at hj <;> omega)) Tryz.underlying56 nu56 sz26 zr26 by26 rfl (by (simp; omega)) (by (simp; omega)) (leaf_flk rfl rfl) rfl rfl rfl (fun p5 => ?_))
    refine jzq jrnc ?_
    refine jzq (jrfa 0 1 false) ?_
    refine jzm (jmst 1 ?_)
    refine jzd ?_
    refine jtn ?_
    first
      | (refine code_ent (closeR n (enterR tag l k).k ((enterR tag l k).l ++ [(enterR tag l k).body]) 0 2 rfl rfl rfl (CEnt.osI (by simp)) (CEnt.refl _) (by simp) (fun _ _ => CEnt.refl _)) ?_; have hL : enterL tag l k = (enterR tag l k).l ++ [(enterR tag l k).body] := by unfold enterL; rw [if_pos (by simpa using h208)])
      | have hL : enterL tag l k = (enterR tag l k).l := by unfold enterL; rw [if_neg (by simpa using h208)]
    refine jcr ?_
    refine jq jrm ?_
    refine jq jrm ?_
    refine seq_nil ?_
    refine code_ret ?_
    rw [hL]
    exact end_H (.inl rfl) rfl (res_1 rfl (arv_tmp rfl)) (CEnt.refl _)
  refine jq jrm ?_
  refine jqe (jecP (made_ac _) ?_)
  refine jq jrn ?_
  refine jq jrpT ?_
  refine seq_nil ?_
  refine jcc (fun h204 => ?_) fun h204 => ?_
  rotate_left
  · refine code_skip (jtn ?_)
    first
      | (refine code_ent (closeR n 5 l 0 2 rfl rfl rfl (CEnt.osI rfl) (CEnt.refl _) (Nat.le_refl _) (fun _ _ => CEnt.refl _)) ?_; refine code_ent (pick_ent (H' := [rdO n l 5]) [0] (by decide) rfl) ?_; have hE : enterR tag l k = nextR tag l 5 := by unfold enterR; rw [if_pos (by simp_all [moreM, madeM])])
      | (refine code_ent (pick_ent (H' := [rdO n l k]) [0] (by decide) rfl) ?_; have hE : enterR tag l k = nextR tag l k := by unfold enterR; rw [if_neg (by simp_all [moreM, madeM])])
    refine jcr ?_
    refine jq jrm ?_
    refine jq jrm ?_
    refine jqm (jmcH 0 (nextR_ac n l _ tag hl hb) ?_)
    rintro _ _ ⟨rfl, rfl⟩
    refine ⟨_, _, rfl, CEnt.refl _, ?_⟩
    refine jq jrm ?_
    refine jq jrx ?_
    refine jq jrx ?_
    refine jq jrx ?_
    refine jqe (jeal (n := 2) zr68 rfl fun p3 => ?_)
    refine jqm (jmst 2 ?_)
    refine jq jrm ?_
    refine jq jrm ?_
    refine seq_nil ?_
    refine jcs ?_
    rw [← hE]
    have hel : 0 < (enterR tag l k).l.length ∧ (enterR tag l k).l.length ≤ 1000000 := by rw [hE]; exact hnl _
    refine jcr ?_
    refine jq jrm ?_
    refine seq_nil ?_
    refine jcc (fun h208 => ?_) fun h208 => ?_
    rotate_left
    · refine code_skip (jtn ?_)
      first
        | (refine code_ent (closeR n (enterR tag l k).k ((enterR tag l k).l ++ [(enterR tag l k).body]) 0 2 rfl rfl rfl (CEnt.osI (by simp)) (CEnt.refl _) (by simp) (fun _ _ => CEnt.refl _)) ?_; have hL : enterL tag l k = (enterR tag l k).l ++ [(enterR tag l k).body] := by unfold enterL; rw [if_pos (by simpa using h208)])
        | have hL : enterL tag l k = (enterR tag l k).l := by unfold enterL; rw [if_neg (by simpa using h208)]
      refine jcr ?_
      refine jq jrm ?_
      refine jq jrm ?_
      refine seq_nil ?_
      refine code_ret ?_
      rw [hL]
      exact end_H (.inl rfl) rfl (res_1 rfl (arv_tmp rfl)) (CEnt.refl _)
    refine code_ent (freeze 1 rfl) ?_
    refine code_ent (thawP 5 (m := 2) rfl rfl (by decide)) ?_
    dsimp only [List.set_cons_zero, List.set_cons_succ, List.cons_append, List.nil_append, List.length_cons, List.length_nil, Nat.zero_add, Nat.reduceAdd]
    refine code_openR 0 rfl fun gl3 => ?_
    refine jcdZ (.rd 0 (.rd 1 (.rd 2 (.rd 3 (.rd 4 (.rd 5 (.rd 6 (.one 7 (.one 8 (.rd 9 (.rd 10 (.one 11 .done)))))))))))) ?_
    refine jzq jrm ?_
    refine jzq jrm ?_
    refine jzq jrnc ?_
    refine jzq (jrfa 0 1 false) ?_
    refine jzo jrdo ?_
    refine jzq (jrfa 1 1 false) ?_
    refine jzq jrdr ?_
    refine jze (jebl 1 1 zr26 fun p4 => ?_)
    refine jzm (m_appendC (rowC_lb) (l2 := [(enterR tag l k).body]) rfl rfl rfl rfl (by omega) (fun _ _ => CEnt.refl _) (src_os rfl (.inl rfl) (by decide)) rfl (fun j hj => by rcases j with _|j <;> first | exact CEnt.refl _ | exact CEnt.int (by omega) | (exfalso; simp at hj <;> omega)) Tryz.underlying56 nu56 sz26 zr26 by26 rfl (by (simp; omega)) (by (simp; omega)) (leaf_flk rfl rfl) rfl rfl rfl (fun p5 => ?_))
    refine jzq jrnc ?_
    refine jzq (jrfa 0 1 false) ?_
    refine jzm (jmst 1 ?_)
    refine jzd ?_
    refine jtn ?_
    first
      | (refine code_ent (closeR n (enterR tag l k).k ((enterR tag l k).l ++ [(enterR tag l k).body]) 0 2 rfl rfl rfl (CEnt.osI (by simp)) (CEnt.refl _) (by simp) (fun _ _ => CEnt.refl _)) ?_; have hL : enterL tag l k = (enterR tag l k).l ++ [(enterR tag l k).body] := by unfold enterL; rw [if_pos (by simpa using h208)])
      | have hL : enterL tag l k = (enterR tag l k).l := by unfold enterL; rw [if_neg (by simpa using h208)]
    refine jcr ?_
    refine jq jrm ?_
    refine jq jrm ?_
    refine seq_nil ?_
    refine code_ret ?_
    rw [hL]
    exact end_H (.inl rfl) rfl (res_1 rfl (arv_tmp rfl)) (CEnt.refl _)
  refine code_openR 0 rfl fun gl2 => ?_
  refine jcg ?_
  refine jq jrm ?_
  refine jq (jrde 4) ?_
  refine jq jrnc ?_
  refine jq (jrfa 1 1 false) ?_
  refine jqm (jmstF 1 (fl [.os 2 gl2 0 l.length 1, .err 5]) ?_ ?_)
  · exact (fun j hj => by rcases j with _ | _ | j <;> exact CEnt.refl _)
  refine seq_nil ?_
  refine jtn ?_
  first
    | (refine code_ent (closeR n 5 l 0 2 rfl rfl rfl (CEnt.osI rfl) (CEnt.refl _) (Nat.le_refl _) (fun _ _ => CEnt.refl _)) ?_; refine code_ent (pick_ent (H' := [rdO n l 5]) [0] (by decide) rfl) ?_; have hE : enterR tag l k = nextR tag l 5 := by unfold enterR; rw [if_pos (by simp_all [moreM, madeM])])
    | (refine code_ent (pick_ent (H' := [rdO n l k]) [0] (by decide) rfl) ?_; have hE : enterR tag l k = nextR tag l k := by unfold enterR; rw [if_neg (by simp_all [moreM, madeM])])
  refine jcr ?_
  refine jq jrm ?_
  refine jq jrm ?_
  refine jqm (jmcH 0 (nextR_ac n l _ tag hl hb) ?_)
  rintro _ _ ⟨rfl, rfl⟩
  refine ⟨_, _, rfl, CEnt.refl _, ?_⟩
  refine jq jrm ?_
  refine jq jrx ?_
  refine jq jrx ?_
  refine jq jrx ?_
  refine jqe (jeal (n := 2) zr68 rfl fun p3 => ?_)
  refine jqm (jmst 2 ?_)
  refine jq jrm ?_
  refine jq jrm ?_
  refine seq_nil ?_
  refine jcs ?_
  rw [← hE]
  have hel : 0 < (enterR tag l k).l.length ∧ (enterR tag l k).l.length ≤ 1000000 := by rw [hE]; exact hnl _
  refine jcr ?_
  refine jq jrm ?_
  refine seq_nil ?_
  refine jcc (fun h208 => ?_) fun h208 => ?_
  rotate_left
  · refine code_skip (jtn ?_)
    first
      | (refine code_ent (closeR n (enterR tag l k).k ((enterR tag l k).l ++ [(enterR tag l k).body]) 0 2 rfl rfl rfl (CEnt.osI (by simp)) (CEnt.refl _) (by simp) (fun _ _ => CEnt.refl _)) ?_; have hL : enterL tag l k = (enterR tag l k).l ++ [(enterR tag l k).body] := by unfold enterL; rw [if_pos (by simpa using h208)])
      | have hL : enterL tag l k = (enterR tag l k).l := by unfold enterL; rw [if_neg (by simpa using h208)]
    refine jcr ?_
    refine jq jrm ?_
    refine jq jrm ?_
    refine seq_nil ?_
    refine code_ret ?_
    rw [hL]
    exact end_H (.inl rfl) rfl (res_1 rfl (arv_tmp rfl)) (CEnt.refl _)
  refine code_ent (freeze 1 rfl) ?_
  refine code_ent (thawP 5 (m := 2) rfl rfl (by decide)) ?_
  dsimp only [List.set_cons_zero, List.set_cons_succ, List.cons_append, List.nil_append, List.length_cons, List.length_nil, Nat.zero_add, Nat.reduceAdd]
  refine code_openR 0 rfl fun gl3 => ?_
  refine jcdZ (.rd 0 (.rd 1 (.rd 2 (.rd 3 (.rd 4 (.rd 5 (.rd 6 (.one 7 (.one 8 (.rd 9 (.rd 10 (.one 11 .done)))))))))))) ?_
  refine jzq jrm ?_
  refine jzq jrm ?_
  refine jzq jrnc ?_
  refine jzq (jrfa 0 1 false) ?_
  refine jzo jrdo ?_
  refine jzq (jrfa 1 1 false) ?_
  refine jzq jrdr ?_
  refine jze (jebl 1 1 zr26 fun p4 => ?_)
  refine jzm (m_appendC (rowC_lb) (l2 := [(enterR tag l k).body]) rfl rfl rfl rfl (by omega) (fun _ _ => CEnt.refl _) (src_os rfl (.inl rfl) (by decide)) rfl (fun j hj => by rcases j with _|j <;> first | exact CEnt.refl _ | exact CEnt.int (by omega) | (exfalso; simp at hj <;> omega)) Tryz.underlying56 nu56 sz26 zr26 by26 rfl (by (simp; omega)) (by (simp; omega)) (leaf_flk rfl rfl) rfl rfl rfl (fun p5 => ?_))
  refine jzq jrnc ?_
  refine jzq (jrfa 0 1 false) ?_
  refine jzm (jmst 1 ?_)
  refine jzd ?_
  refine jtn ?_
  first
    | (refine code_ent (closeR n (enterR tag l k).k ((enterR tag l k).l ++ [(enterR tag l k).body]) 0 2 rfl rfl rfl (CEnt.osI (by simp)) (CEnt.refl _) (by simp) (fun _ _ => CEnt.refl _)) ?_; have hL : enterL tag l k = (enterR tag l k).l ++ [(enterR tag l k).body] := by unfold enterL; rw [if_pos (by simpa using h208)])
    | have hL : enterL tag l k = (enterR tag l k).l := by unfold enterL; rw [if_neg (by simpa using h208)]
  refine jcr ?_
  refine jq jrm ?_
  refine jq jrm ?_
  refine seq_nil ?_
  refine code_ret ?_
  rw [hL]
  exact end_H (.inl rfl) rfl (res_1 rfl (arv_tmp rfl)) (CEnt.refl _)
/-- an element is left -/
def leaveK (l : List (List UInt8)) (k : Nat) : Nat := if k ≠ 0 then k else if l.length = 1 then 24 else if 0 < (nowL l).length then 4 else 0
def leaveL (l : List (List UInt8)) (k : Nat) : List (List UInt8) := if leaveK l k = 0 then l.take (l.length - 1) else l
/-- the first error, at the end -/
def endK (l : List (List UInt8)) (k : Nat) : Nat := if k ≠ 0 then k else if 1 < l.length then 24 else if 0 < (l.getD 0 []).length then 4 else 0
theorem end08_ac (n : Nat) (l : List (List UInt8)) (k : Nat) (hl : 0 < l.length ∧ l.length ≤ 1000000) : AC gs Tryz.prog 33 [rdO n l k] [.op 0 (some n) 0]
    (fun r H' => r = .err (endK l k) ∧ H' = [rdO n l k]) := by
  refine ac_of 31 Tryz.func33 rfl rfl rfl (fun al w0 F0 St0 => ?_)
  refine jcr ?_
  refine jq jrm ?_
  refine seq_nil ?_
  refine jcs ?_
  refine code_block ?_
  refine code_openR 0 rfl fun gl => ?_
  refine jcr ?_
  refine jq jrm ?_
  refine jq jrnc ?_
  refine jq (jrfa 1 1 false) ?_
  refine jqo jrdo ?_
  refine jq jre ?_
  refine jq jrm ?_
  refine seq_nil ?_
  refine jcc (fun h292 => ?_) fun h292 => ?_
  · refine jcr ?_
    refine jq jrm ?_
    refine jq jrnc ?_
    refine jq (jrfa 1 1 false) ?_
    refine jqo jrdo ?_
    refine jq jrm ?_
    refine seq_nil ?_
    refine code_ret (jbr (jtr ?_))
    exact end_packV (gd := fun z : Nat × Option Nat => z.1) (E := rdE l k) (.inl rfl) (n, gl) [0, 1] (by decide) rfl (res_1 rfl (arv_tmp rfl)) (CEnt.err (by unfold endK; rw [if_pos (by omega)]))
  refine jcr ?_
  refine jq jrm ?_
  refine jq jrnc ?_
  refine jq (jrfa 0 1 false) ?_
  refine jqo jrdo ?_
  refine jq jrl ?_
  refine jq jrc ?_
  refine jq jrm ?_
  refine seq_nil ?_
  refine jcc (fun h294 => ?_) fun h294 => ?_
  · refine jcr ?_
    refine jq (jrde 23) ?_
    refine jq jrm ?_
    refine seq_nil ?_
    refine code_ret (jbr (jtr ?_))
    exact end_packV (gd := fun z : Nat × Option Nat => z.1) (E := rdE l k) (.inl rfl) (n, gl) [0, 1] (by decide) rfl (res_1 rfl (arv_tmp rfl)) (CEnt.err (by unfold endK; rw [if_neg (by omega), if_pos (by omega)]))
  refine jcr ?_
  refine jq jrm ?_
  refine jq jrnc ?_
  refine jq (jrfa 0 1 false) ?_
  refine jqo jrdo ?_
  refine jq (jri (i := 0)) ?_
  refine jqo jrdo ?_
  refine jq jrl ?_
  refine jq jrc ?_
  refine jq jrm ?_
  refine seq_nil ?_
  refine jcc (fun h296 => ?_) fun h296 => ?_
  · refine jcr ?_
    refine jq (jrde 3) ?_
    refine jq jrm ?_
    refine seq_nil ?_
    refine code_ret (jbr (jtr ?_))
    exact end_packV (gd := fun z : Nat × Option Nat => z.1) (E := rdE l k) (.inl rfl) (n, gl) [0, 1] (by decide) rfl (res_1 rfl (arv_tmp rfl)) (CEnt.err (by unfold endK; rw [if_neg (by omega), if_neg (by omega), if_pos (by omega)]))
  refine code_skip (jbn (jtn ?_))
  refine jcr ?_
  refine jq jrm ?_
  refine seq_nil ?_
  refine code_ret ?_
  have e : endK l k = 0 := by unfold endK; rw [if_neg (by omega), if_neg (by omega), if_neg (by omega)]
  rw [e]
  exact end_packV (gd := fun z : Nat × Option Nat => z.1) (E := rdE l k) (.inl rfl) (n, gl) [0, 1] (by decide) rfl (res_1 rfl (arv_tmp rfl)) CEnt.nil
end Am
end Go.Proofs.YtjckfbpdieijeaaGreatDoor

/- Chapter 8: the reader's values: whole numbers. -/
namespace Go.Proofs.YtjckfbpdieijeaaGreatDoor
set_option linter.unusedVariables false
namespace Am
variable {gs : List Nat} [OkG gs]
open Go.RowKit
set_option maxRecDepth 100000

theorem nextR_is {tag : Int} {l : List (List UInt8)} {k : Nat} (h : (nextR tag l k).is = true) : (nextR tag l k).k = 0 ∧ (nextR tag l k).body.length ≤ 65530 := by
  have hb := nextM_bd (nowL l)
  unfold nextR at h ⊢
  split
  · rename_i h1; rw [if_pos h1] at h; cases h
  · rename_i h1; rw [if_neg h1] at h
    split
    · rename_i h2; rw [if_pos h2] at h; cases h
    · rename_i h2; rw [if_neg h2] at h
      split
      · rename_i h3; rw [if_pos h3] at h; cases h
      · exact ⟨rfl, hb.2.2.1⟩
/-- the reader's error behind a value whose body has this error -/
def valK (tag : Int) (l : List (List UInt8)) (k : Nat) (e : List UInt8 → Nat) : Nat := if (nextR tag l k).is = true then e (nextR tag l k).body else (nextR tag l k).k
theorem nextR_len {tag : Int} {l : List (List UInt8)} {k : Nat} : (nextR tag l k).l.length = l.length := by
  unfold nextR
  split
  · rfl
  · split
    · rfl
    · split
      · rfl
      · simp
theorem valueI_ac {gs : List Nat} [OkG gs] {f : FuncId} {m : Nat} {fv : Nat → CV} (hc : calleeB Tryz.prog f = true) (n : Nat) (l : List (List UInt8)) (k : Nat) (tag : Int) (get : List UInt8 → Int × Nat) (hl : 0 < l.length ∧ l.length ≤ 1000000) (hb : (nowL l).length ≤ 10000000) (hp : ∀ b : List UInt8, b.length ≤ 65530 → ACp gs Tryz.prog f (bsC b :: (List.range m).map fv) (.tup 2 (fl [.c (.int .i64 (get b).1), .err (get b).2]))) :
    AC gs Tryz.prog 79 [rdO n l k] [.op 0 (some n) 0, .c (.int .i64 tag), .fn f m fv]
      (fun r H' => r = .c (.int .i64 (if (nextR tag l k).is = true ∧ (get (nextR tag l k).body).2 = 0 then (get (nextR tag l k).body).1 else 0)) ∧ H' = [rdO n (nextR tag l k).l (valK tag l k fun b => (get b).2)]) := by
  have hln : (nextR tag l k).l.length = l.length := nextR_len
  refine ac_of 38 Tryz.func79 rfl rfl rfl (fun al w0 F0 St0 => ?_)
  refine jcr ?_
  refine jq jrm ?_
  refine seq_nil ?_
  refine jcr ?_
  refine jq jrm ?_
  refine seq_nil ?_
  refine jcr ?_
  refine jq jrm ?_
  refine jq jrm ?_
  refine jqm (jmcH 0 (nextR_ac n l k tag hl hb) ?_)
  rintro _ _ ⟨rfl, rfl⟩
  refine ⟨_, _, rfl, CEnt.refl _, ?_⟩
  refine jq jrm ?_
  refine jq jrx ?_
  refine jq jrx ?_
  refine jq jrx ?_
  refine jqe (jeal (n := 2) zr68 rfl fun p2 => ?_)
  refine jqm (jmst 2 ?_)
  refine jq jrm ?_
  refine jq jrm ?_
  refine seq_nil ?_
  refine jcs ?_
  refine jcr ?_
  refine jq jrm ?_
  refine jq jrn ?_
  refine seq_nil ?_
  refine jcc (fun h232 => ?_) fun h232 => ?_
  · refine jcr ?_
    refine jq jrm ?_
    refine jq jrm ?_
    refine seq_nil ?_
    refine code_ret (jtr ?_)
    rw [if_neg (by simp_all)]
    have e : (valK tag l k fun b => (get b).2) = (nextR tag l k).k := by unfold valK; rw [if_neg (by simpa using h232)]
    rw [e]
    exact end_H (.inl rfl) rfl (res_1 rfl (arv_tmp rfl)) (CEnt.refl _)
  refine code_skip (jtn ?_)
  have his := nextR_is (by simpa using h232)
  refine jcr ?_
  refine jq jrm ?_
  refine jq (jrfa 1 1 false) ?_
  refine jqo jrdo ?_
  refine jqe (e_callV rfl rfl (by assumption) (hp (nextR tag l k).body his.2) (entL_fn (CEnt.refl _) _) rfl rfl ?_)
  rintro _ _ ⟨rfl, rfl⟩
  refine jq jrm ?_
  refine jq jrx ?_
  refine jq jrx ?_
  refine jq jrm ?_
  refine jq jrm ?_
  refine seq_nil ?_
  refine jcs ?_
  refine jcr ?_
  refine jq jrm ?_
  refine jq jre ?_
  refine seq_nil ?_
  refine jcc (fun h236 => ?_) fun h236 => ?_
  rotate_left
  · refine code_skip (jtn ?_)
    refine jcr ?_
    refine jq jrm ?_
    refine jq jrm ?_
    refine seq_nil ?_
    refine code_ret ?_
    have h0 : (get (nextR tag l k).body).2 = 0 := by omega
    rw [if_pos ⟨by simpa using h232, h0⟩]
    have e : (valK tag l k fun b => (get b).2) = (nextR tag l k).k := by unfold valK; rw [if_pos (by simpa using h232), his.1]; exact h0
    rw [e]
    exact end_H (.inl rfl) rfl (res_1 rfl (arv_tmp rfl)) (CEnt.refl _)
  refine code_openR 0 rfl fun gl => ?_
  refine jcr ?_
  refine jq jrm ?_
  refine jq jrm ?_
  refine jq jrnc ?_
  refine jq (jrfa 1 1 false) ?_
  refine jqm (jmst 1 ?_)
  refine seq_nil ?_
  refine code_ent (closeR n (get (nextR tag l k).body).2 (nextR tag l k).l 0 2 rfl rfl rfl (CEnt.osI rfl) (CEnt.refl _) (Nat.le_refl _) (fun _ _ => CEnt.refl _)) ?_
  refine jcr ?_
  refine jq jrm ?_
  refine jq jrm ?_
  refine seq_nil ?_
  refine code_ret (jtr ?_)
  rw [if_neg (by omega)]
  have e : (valK tag l k fun b => (get b).2) = (get (nextR tag l k).body).2 := by unfold valK; rw [if_pos (by simpa using h232)]
  rw [e]
  exact end_H (.inl rfl) rfl (res_1 rfl (arv_tmp rfl)) (CEnt.refl _)
theorem CEnt.fn2' {k : FuncId} {f g : Nat → CV} (h0 : CEnt (f 0) (g 0)) (h1 : CEnt (f 1) (g 1)) : CEnt (.fn k 2 f) (.fn k 2 g) := fun al St w v ⟨cs, k1, k2, k3⟩ => ⟨cs, k1, k2, fun i hi => by
  rcases i with _ | _ | i
  · exact h0 _ _ _ _ (k3 0 (by omega))
  · exact h1 _ _ _ _ (k3 1 (by omega))
  · omega⟩
theorem int_box {z : Int} : ∀ j, j < 1 → CEnt (fl [CV.c (.int .i64 z)] (0 + j)) (CV.c (.int .i64 z)) := fun j hj => by
  obtain rfl : j = 0 := by omega
  exact CEnt.refl _
/-- two numbers that a closure holds -/
def twoF (a b : Int) : Nat → CV := fl [.rp 1 fun _ => .c (.int .i64 a), .rp 1 fun _ => .c (.int .i64 b)]
theorem intG_ac (least most : Int) (b : List UInt8) : ACp gs Tryz.prog 80 (bsC b :: (List.range 2).map (twoF least most)) (.tup 2 (fl [.c (.int .i64 (rangeM b least most).1), .err (rangeM b least most).2])) := by
  refine ac_of 12 Tryz.func80 rfl rfl rfl (fun al w0 F0 St0 => ?_)
  refine jcr ?_
  refine jq jrm ?_
  refine jq jrm ?_
  refine seq_nil ?_
  refine jcr ?_
  refine jq jrm ?_
  refine jq jrdr ?_
  refine jq jrdr ?_
  refine jqe (jecP (wrange_ac b least most) ?_)
  refine jq jrx ?_
  refine jq jrx ?_
  refine jq jrm ?_
  refine jq jrm ?_
  refine seq_nil ?_
  refine code_ret jrt
theorem int08_ac (n : Nat) (l : List (List UInt8)) (k : Nat) (least most : Int) (hl : 0 < l.length ∧ l.length ≤ 1000000) (hb : (nowL l).length ≤ 10000000) :
    AC gs Tryz.prog 41 [rdO n l k] [.op 0 (some n) 0, .c (.int .i64 least), .c (.int .i64 most)]
      (fun r H' => r = .c (.int .i64 (if (nextR 2 l k).is = true ∧ (rangeM (nextR 2 l k).body least most).2 = 0 then (rangeM (nextR 2 l k).body least most).1 else 0)) ∧ H' = [rdO n (nextR 2 l k).l (valK 2 l k fun b => (rangeM b least most).2)]) := by
  refine ac_of 10 Tryz.func41 rfl rfl rfl (fun al w0 F0 St0 => ?_)
  refine jcr ?_
  refine jqe (jebx 1 fun p1 => ?_)
  refine jqe (jebx 1 fun p2 => ?_)
  refine jq jrm ?_
  refine seq_nil ?_
  refine code_ent (freeze 1 rfl) ?_
  refine code_ent (freeze 2 rfl) ?_
  refine code_ent (thawP 4 (m := 1) rfl rfl (by decide)) ?_
  refine code_ent (thawP 5 (m := 1) rfl rfl (by decide)) ?_
  refine jcr ?_
  refine jq jrm ?_
  refine jq jrmf ?_
  refine jqm (jmcH 0 (valueI_ac (fv := twoF least most) (by kernel_rfl) n l k 2 (fun b => rangeM b least most) hl hb (fun b _ => intG_ac least most b)) ?_ (ho := rfl) (he := (.cons (se rfl CEnt.opI) (.cons (se rfl (CEnt.refl _)) (.cons (se rfl (CEnt.fn2' (CEnt.rp int_box) (CEnt.rp int_box))) .nil)))))
  rintro _ _ ⟨rfl, rfl⟩
  refine ⟨_, _, rfl, CEnt.refl _, ?_⟩
  refine jq jrm ?_
  refine seq_nil ?_
  refine code_ret ?_
  exact end_H (.inl rfl) rfl (res_1 rfl (arv_tmp rfl)) (CEnt.refl _)
end Am
end Go.Proofs.YtjckfbpdieijeaaGreatDoor

/- Chapter 8: a reader is made. -/
namespace Go.Proofs.YtjckfbpdieijeaaGreatDoor
set_option linter.unusedVariables false
namespace Am
variable {gs : List Nat} [OkG gs]
open Go.RowKit
set_option maxRecDepth 100000

theorem read08_ac (b : List UInt8) (hb : b.length ≤ 10000000) : AC gs Tryz.prog 16 [] [bsC b] (fun r H' => ∃ n, r = .op 0 (some n) 0 ∧ H' = [rdO n [b] (depthM b).2]) := by
  refine ac_of 10 Tryz.func16 rfl rfl rfl (fun al w0 F0 St0 => ?_)
  refine jcr ?_
  refine jq jrm ?_
  refine seq_nil ?_
  refine jcr ?_
  refine jq jrm ?_
  refine jqe (jecP (clone8_ac b (by omega)) ?_)
  refine jqe (jebl 1 1 zr26 fun p1 => ?_)
  refine jq jrm ?_
  refine jqe (jecP (check_ac b hb) ?_)
  refine jq (rd_build (n := 2) rfl zr93 pl93 rfl rfl) ?_
  refine jqe (jebx 2 fun p2 => ?_)
  refine jq jrm ?_
  refine seq_nil ?_
  refine code_knowG (know_op 2 rfl) fun hn => ?_
  obtain ⟨n, rfl⟩ := hn
  refine code_ent (closeR n (depthM b).2 [b] 1 0 rfl rfl rfl (CEnt.osI rfl) (CEnt.refl _) (Nat.le_refl _) (fun a ha => by obtain rfl : a = 0 := (by simpa using ha); exact CEnt.refl _)) ?_
  refine code_ret ?_
  exact end_ownV (.inl rfl) [1] (by decide) rfl (res_1 rfl (arv_tmp rfl)) (CEnt.opI (j := 0)) ⟨n, rfl, rfl⟩
end Am
end Go.Proofs.YtjckfbpdieijeaaGreatDoor

/- bullanum.Err: the error of a number. -/
namespace Go.Proofs.YtjckfbpdieijeaaGreatDoor
set_option linter.unusedVariables false
namespace Am
variable {gs : List Nat} [OkG gs]
open Go.RowKit
set_option maxRecDepth 100000

set_option maxHeartbeats 1000000 in
theorem nerr_ac (m : Nat) (hm : m ≤ 28) : ACp gs Tryz.prog 38 [.c (.int .i64 (m : Nat))] (.err m) := by
  refine ac_of 45 Tryz.func38 rfl rfl rfl (fun al w0 F0 St0 => ?_)
  refine jcr ?_
  refine jq jrm ?_
  refine seq_nil ?_
  refine jcr ?_
  refine jq (jrde 0) ?_
  refine jq (jrde 1) ?_
  refine jq (jrde 2) ?_
  refine jq (jrde 3) ?_
  refine jq (jrde 4) ?_
  refine jq (jrde 5) ?_
  refine jq (jrde 6) ?_
  refine jq (jrde 7) ?_
  refine jq (jrde 8) ?_
  refine jq (jrde 9) ?_
  refine jq (jrde 10) ?_
  refine jq (jrde 11) ?_
  refine jq (jrde 12) ?_
  refine jq (jrde 13) ?_
  refine jq (jrde 14) ?_
  refine jq (jrde 15) ?_
  refine jq (jrde 16) ?_
  refine jq (jrde 17) ?_
  refine jq (jrde 18) ?_
  refine jq (jrde 19) ?_
  refine jq (jrde 20) ?_
  refine jq (jrde 21) ?_
  refine jq (jrde 22) ?_
  refine jq (jrde 23) ?_
  refine jq (jrde 24) ?_
  refine jq (jrde 25) ?_
  refine jq (jrde 26) ?_
  refine jq (jrde 27) ?_
  refine jqe (jebl 29 1 zr28 (l := [.c .nilIface, .err 1, .err 2, .err 3, .err 4, .err 5, .err 6, .err 7, .err 8, .err 9, .err 10, .err 11, .err 12, .err 13, .err 14, .err 15, .err 16, .err 17, .err 18, .err 19, .err 20, .err 21, .err 22, .err 23, .err 24, .err 25, .err 26, .err 27, .err 28]) (hf := by kernel_rfl) fun p1 => ?_)
  refine jq jrm ?_
  refine seq_nil ?_
  refine jcs ?_
  refine code_ent (weakH 0 29 (fun j => .err j) rfl (Nat.le_refl _) (fun j hj => by rcases j with _ | _ | _ | _ | _ | _ | _ | _ | _ | _ | _ | _ | _ | _ | _ | _ | _ | _ | _ | _ | _ | _ | _ | _ | _ | _ | _ | _ | _ | j <;> first | exact CEnt.nil | exact CEnt.refl _ | omega)) ?_
  refine jcr ?_
  refine jq jrm ?_
  refine jq jrc ?_
  refine jq jrm ?_
  refine jqsp 35 (fun g150 => ?_) fun g150 => ?_
  · refine jqs ?_
    refine jqs ?_
    refine jqs ?_
    refine jqs ?_
    refine jq jrpT ?_
    refine seq_nil ?_
    refine jcT ?_
    refine jcr ?_
    refine jq jrm ?_
    refine seq_nil ?_
    refine code_ret (jtr (jrt (hv := ?_)))
    exfalso; omega
  refine jq jrm ?_
  refine jq jrm ?_
  refine jq jrl ?_
  refine jq jrc ?_
  refine jq jrpF ?_
  refine seq_nil ?_
  refine jcc (fun h150 => ?_) fun h150 => ?_
  · refine jcr ?_
    refine jq jrm ?_
    refine seq_nil ?_
    refine code_ret (jtr (jrt (hv := ?_)))
    exfalso; omega
  refine code_skip (jtn ?_)
  refine jcr ?_
  refine jq jrm ?_
  refine jq jrm ?_
  refine jq jri ?_
  first | refine jqo jrdo ?_ | refine jq jrdr ?_
  refine jq jrm ?_
  refine seq_nil ?_
  refine code_ret (jrt (hv := CEnt.refl _))
end Am
end Go.Proofs.YtjckfbpdieijeaaGreatDoor

/- Chapter 8: what the laws need besides: lists of values, long, errors by number. -/
namespace Go.Proofs.YtjckfbpdieijeaaGreatDoor
set_option linter.unusedVariables false
namespace Am
variable {gs : List Nat} [OkG gs]
open Go.RowKit Cal
set_option maxRecDepth 100000

def valF (v : VV) : Nat → CV := fl [.c (.int .i64 v.kind), .c (.int .i64 v.n), .c (.bool v.is), bsC v.b, strC v.t]
def vsC (vs : List VV) : CV := .rs 5 vs.length fun i j => valF (vs.getD i VV.none) j
def bigV (v : VV) : Bool := decide (300 < v.b.length) || decide (300 < v.t.length)
def longM (vs : List VV) : Bool := decide (60 < vs.length) || vs.any bigV
theorem long_not {vs : List VV} (h : longM vs = false) : vs.length ≤ 60 ∧ ∀ v ∈ vs, v.b.length ≤ 300 ∧ v.t.length ≤ 300 := by
  unfold longM at h
  simp only [Bool.or_eq_false_iff, decide_eq_false_iff_not] at h
  refine ⟨by omega, fun v hv => ?_⟩
  have := List.any_eq_false.1 h.2 v hv
  simp only [bigV, Bool.or_eq_true, decide_eq_true_eq] at this
  omega
theorem any_take {vs : List VV} {i : Nat} (h : i < vs.length) : (vs.take (i + 1)).any bigV = ((vs.take i).any bigV || bigV (vs.getD i VV.none)) := by
  rw [List.take_succ_eq_append_getElem h, List.any_append]
  simp [List.getD_eq_getElem?_getD, h]
theorem long08_ac {gs : List Nat} (vs : List VV) : ACp gs Tryz.prog 24 [vsC vs] (.c (.bool (longM vs))) := by
  refine ac_of 25 Tryz.func24 rfl rfl rfl (fun al w0 F0 St0 => ?_)
  refine jcr ?_
  refine jq jrm ?_
  refine seq_nil ?_
  refine jcs ?_
  refine jcr ?_
  refine jq jrm ?_
  refine jq jrl ?_
  refine jq jrc ?_
  refine seq_nil ?_
  refine jcc (fun h53 => ?_) fun h53 => ?_
  · refine jcr ?_
    refine jq jrm ?_
    refine seq_nil ?_
    refine code_ret (jtr (jrt (hv := CEnt.bool (by unfold longM; simp; omega))))
  refine code_skip (jtn ?_)
  refine jcs ?_
  refine jcr ?_
  refine jq jrm ?_
  refine jq jrl ?_
  refine jq jrm ?_
  refine seq_nil ?_
  refine code_block ?_
  refine l_loop (α := Nat) [2, 4, 10, 11, 12, 13, 14, 15, 16, 17, 18, 19, 20, 21, 22, 23, 24] (fun i => [(10, .c (.int .i64 (i : Nat)))]) (fun _ => []) (fun i => i ≤ vs.length ∧ (vs.take i).any bigV = false) (fun i => vs.length - i) (0) ?_ (fun _ => rfl) ?_ ?_ ?_
  · exact ⟨Nat.zero_le _, rfl⟩
  · exact .cons (CEnt.refl _) .nil
  · (repeat (first | exact HEnt.nil | refine HEnt.same ?_ | refine HEnt.blk rfl (fun j hj => by rcases j with _|_|_|_|_|_|_|_|j <;> first | exact CEnt.refl _ | exact CEnt.int (by omega) | omega) ?_))
  · rintro i ⟨(hi : i ≤ vs.length), (ha : (vs.take i).any bigV = false)⟩
    refine jcr ?_
    refine jq jrc ?_
    refine seq_nil ?_
    refine jcs ?_
    refine jcc (fun h56 => ?_) fun h56 => ?_
    rotate_left
    · refine code_exit (jte (jte (jbx (jtn ?_))))
      refine jcr ?_
      refine jq jrm ?_
      refine seq_nil ?_
      refine code_ret (jrt (hv := ?_))
      have hi2 : i = vs.length := by omega
      have ha2 : vs.any bigV = false := by rw [hi2, List.take_length] at ha; exact ha
      exact CEnt.bool (by unfold longM; rw [ha2, Bool.or_false]; simp; omega)
    refine code_skip (jtn ?_)
    refine jcs ?_
    refine code_block ?_
    refine jcr ?_
    refine jq jri ?_
    refine jq (jrdrA 5) ?_
    refine jqe (jeal (n := 5) zr43 rfl fun p1 => ?_)
    refine jqm (jmst 5 ?_)
    refine seq_nil ?_
    refine jcr ?_
    refine jq (jrfa 3 1 false) ?_
    refine jqo jrdo ?_
    refine jq jrl ?_
    refine jq jrc ?_
    refine jq jrm ?_
    refine jqsp 18 (fun g57 => ?_) fun g57 => ?_
    · refine jqs ?_
      refine jqs ?_
      refine jqs ?_
      refine jqs ?_
      refine jq jrpT ?_
      refine seq_nil ?_
      refine jcT ?_
      refine jcr ?_
      refine jq jrm ?_
      refine seq_nil ?_
      refine code_ret (jbr (jtr (jtr (jbr (jtr (jrt (hv := ?_)))))))
      have hm : vs.getD i VV.none ∈ vs := by
        rw [List.getD_eq_getElem?_getD, List.getElem?_eq_getElem (by omega)]
        exact List.getElem_mem _
      have hx : bigV (vs.getD i VV.none) = true := by unfold bigV; simp only [Bool.or_eq_true, decide_eq_true_eq]; omega
      have ha2 : vs.any bigV = true := List.any_eq_true.2 ⟨_, hm, hx⟩
      exact CEnt.bool (by unfold longM; rw [ha2, Bool.or_true])
    refine jq (jrfa 4 1 false) ?_
    refine jqo jrdo ?_
    refine jq jrls ?_
    refine jq jrc ?_
    refine jq jrpF ?_
    refine seq_nil ?_
    refine jcc (fun h57 => ?_) fun h57 => ?_
    · refine jcr ?_
      refine jq jrm ?_
      refine seq_nil ?_
      refine code_ret (jbr (jtr (jtr (jbr (jtr (jrt (hv := ?_)))))))
      have hm : vs.getD i VV.none ∈ vs := by
        rw [List.getD_eq_getElem?_getD, List.getElem?_eq_getElem (by omega)]
        exact List.getElem_mem _
      have hx : bigV (vs.getD i VV.none) = true := by unfold bigV; simp only [Bool.or_eq_true, decide_eq_true_eq]; omega
      have ha2 : vs.any bigV = true := List.any_eq_true.2 ⟨_, hm, hx⟩
      exact CEnt.bool (by unfold longM; rw [ha2, Bool.or_true])
    refine code_skip (jbn (jtn ?_))
    refine jcg ?_
    refine jq jra ?_
    refine jq jrm ?_
    refine seq_nil ?_
    refine jtn ?_
    refine jlend (i + 1) ?_ ?_ (h5 := ?_)
    · exact ⟨by omega, by rw [any_take (by omega), ha, Bool.false_or]; unfold bigV; simp only [Bool.or_eq_false_iff, decide_eq_false_iff_not]; omega⟩
    · show vs.length - (i + 1) < vs.length - i; omega
    · exact .cons (CEnt.int (by omega)) .nil
/-- a new writer of the reference's -/
def r0W : R8 := ⟨[], [], 0⟩
theorem newRW {G : Gh} {env : List (Nat × CV)} {b0 : Nat → CV} {H : List (Option Nat × Res)} (n i : Nat) {f : Nat → CV} (hi : H[i]? = some (some n, .blk 3 f)) (h0 : CEnt (f 0) (.c (.slice none 0 0))) (h1 : CEnt (f 1) (.c (.slice none 0 0))) (h2 : CEnt (f 2) (.c (.int .i64 0))) : EntS G ⟨env, b0, H⟩ ⟨env, b0, H.set i (rwO n r0W)⟩ := by
  have hil := (List.getElem?_eq_some_iff.1 hi).1
  have os0 : ∀ {j k : Nat}, CEnt (.c (.slice none 0 0)) (.os j none 0 0 k) := fun al St w v h => ⟨rfl, h⟩
  intro St a w hr
  obtain ⟨S1, s1, r1⟩ := ent_none (G := G) (s := ⟨env, b0, H⟩) (rowsF []) St a w hr
  obtain ⟨S4, s4, r4⟩ := closeRW (G := G) (env := env) (b0 := b0) (H := H ++ [(none, .blk 0 (rowsF []))]) n r0W i H.length (gr := none) (N := 0) (f := f) (F := rowsF [])
    (by rw [List.getElem?_append_left hil]; exact hi) (by simp) (by cases e : Nat.beq i H.length with | false => rfl | true => have := Nat.eq_of_beq_eq_true e; omega) (h0.trans (CEnt.nilS _ _)) (h1.trans os0) h2 (Nat.le_refl _) (fun a h => absurd h (Nat.not_lt_zero a)) S1 a w r1
  obtain ⟨S5, s5, r5⟩ := pick_ent (G := G) (H' := H.set i (rwO n r0W)) (List.range H.length) (range_nodup _) (by
    rw [pickL_range _ _ (by simp)]
    rw [take_set_out _ _ _ _ (by omega), List.take_set, List.take_left]) S4 a w r4
  exact ⟨S5, fun b hb => s5 b (s4 b (s1 b hb)), r5⟩
/-! ### errors' numbers -/
theorem bodyV_e (v : VV) : (bodyV v).2.2 ≤ 28 := by
  have h1 := asked_bd v.t v.n
  have h2 : (parseM v.t).2 ≤ 4 := by unfold parseM; repeat' split
                                     all_goals (dsimp only; omega)
  unfold bodyV
  repeat' split
  all_goals (dsimp only; first | omega | (unfold ofE; split <;> omega) | (unfold bitsE; split <;> omega))
theorem fail_k {e : Nat} {s : W8} (he : e ≤ 28) (h : s.k ≤ 28) : (failW e s).k ≤ 28 := by unfold failW; split <;> first | exact he | exact h
theorem put_k {t : Int} {b : List UInt8} {e : Nat} {s : W8} (he : e ≤ 28) (h : s.k ≤ 28) : (putW t b e s).k ≤ 28 := by
  unfold putW
  split
  · exact fail_k he h
  · split
    · exact putE_bd _ _
    · rw [addW_k]; exact h
theorem do_k (v : VV) {s : W8} (h : s.k ≤ 28) : (doW v s).k ≤ 28 := by
  unfold doW
  split
  · unfold openW; repeat' split
    all_goals first | exact h | exact Nat.le_of_ble_eq_true rfl
  · split
    · unfold closeV
      split
      · exact h
      · split
        · show 24 ≤ 28; decide
        · exact put_k (by decide) h
    · split
      · unfold rawW
        have hd : (depthM v.b).2 ≤ 28 := Nat.le_trans (depthM_bd v.b).2 (by decide)
        split
        · rw [addW_k]; exact h
        · exact fail_k hd h
      · exact put_k (bodyV_e v) h
theorem done_k {s : W8} (h : s.k ≤ 28) : doneK s ≤ 28 := by unfold doneK; repeat' split
                                                            all_goals omega
end Am
end Go.Proofs.YtjckfbpdieijeaaGreatDoor

/- Chapter 8: the law of errors that stay. -/
namespace Go.Proofs.YtjckfbpdieijeaaGreatDoor
set_option linter.unusedVariables false
namespace Am
variable {gs : List Nat} [OkG gs] [OkT gs]
open Go.RowKit Cal
set_option maxRecDepth 100000

theorem fail3 {e : Nat} (he : e ≠ 0) (s : W8) : failW 28 (failW e (failW 0 s)) = failW e s := by
  obtain ⟨fr, d, k⟩ := s
  by_cases h : k = 0
  · subst h; simp [failW, he]
  · simp [failW, h]
set_option maxHeartbeats 4000000 in
theorem derFails_ac (vs : List VV) (at_ n : Int) (hn : ∀ v ∈ vs, -9223372036854775808 ≤ v.n ∧ v.n ≤ 9223372036854775807) : ACp gs Tryz.prog 6 [vsC vs, .c (.int .i64 at_), .c (.int .i64 n)] (.c (.bool true)) := by
  refine ac_of 154 Tryz.func6 rfl rfl rfl (fun al w0 F0 St0 => ?_)
  refine jcr ?_
  refine jq jrm ?_
  refine seq_nil ?_
  refine jcs ?_
  refine jcr ?_
  refine jqe (jecP alive08_ac ?_)
  refine jq jrn ?_
  refine seq_nil ?_
  refine jcc (fun h12 => ?_) fun h12 => ?_
  · exfalso; simp at h12
  refine code_skip (jtn ?_)
  refine jcs ?_
  refine jcr ?_
  refine jq jrm ?_
  refine jqe (jecP (long08_ac vs) ?_)
  refine seq_nil ?_
  refine jcc (fun h15 => ?_) fun h15 => ?_
  · refine jcr ?_
    refine jq jrm ?_
    refine seq_nil ?_
    refine code_ret (jtr (jrt (hv := CEnt.refl _)))
  refine code_skip (jtn ?_)
  have hlg := long_not (vs := vs) (by simpa using h15)
  obtain ⟨e, he, he1, he2⟩ : ∃ e : Nat, 1 + n % 18446744073709551616 % 28 = (e : Int) ∧ 1 ≤ e ∧ e ≤ 28 := ⟨(1 + n % 18446744073709551616 % 28).toNat, by omega, by omega, by omega⟩
  refine jcr ?_
  refine jq jrm ?_
  refine jq (rd_convI rfl rfl Tryz.underlying3 Tryz.underlying77 ((n % 18446744073709551616)) ((by rw [IntKind.wrap_u64]))) ?_
  refine jq jrr ?_
  refine jq (jrv .u64 .i64) ?_
  refine jq jra ?_
  refine jq jrm ?_
  refine seq_nil ?_
  refine jcr ?_
  refine jq (rd_build (n := 3) rfl zr30 pl30 rfl rfl) ?_
  refine jqe (jebx 3 fun p1 => ?_)
  refine jq (rd_build (n := 3) rfl zr40 pl40 rfl rfl) ?_
  refine jqe (jebx 3 fun p2 => ?_)
  refine jq jrm ?_
  refine jq jrm ?_
  refine seq_nil ?_
  rw [he]
  refine code_knowG (know_op 27 rfl) fun hnw => ?_
  obtain ⟨nw, rfl⟩ := hnw
  refine code_knowG (know_op 29 rfl) fun hnm => ?_
  obtain ⟨nm, rfl⟩ := hnm
  refine code_ent (newW nw 0 rfl (CEnt.refl _) (CEnt.refl _) CEnt.nil) ?_
  refine code_ent (newRW nm 1 rfl (CEnt.refl _) (CEnt.refl _) (CEnt.refl _)) ?_
  dsimp only [List.set_cons_zero, List.set_cons_succ, List.cons_append, List.nil_append, List.length_cons, List.length_nil, Nat.zero_add, Nat.reduceAdd]
  refine jcr ?_
  refine jq jrm ?_
  refine seq_nil ?_
  refine jcs ?_
  refine jcr ?_
  refine jq jrm ?_
  refine jq jrl ?_
  refine jq jrc ?_
  refine seq_nil ?_
  refine jcc (fun h21 => ?_) fun h21 => ?_
  rotate_left
  · refine code_skip (jtn ?_)
    refine jcs ?_
    refine jcr ?_
    refine jq jrm ?_
    refine jq jrl ?_
    refine jq jrm ?_
    refine seq_nil ?_
    refine code_block ?_
    refine l_loop (α := Nat × R8 × W8) [10, 11, 42, 43, 44, 45, 46, 47, 48, 49, 50, 51, 52, 53, 54, 55, 56, 57, 58, 59, 60, 61, 62, 63, 64, 65, 66, 67, 68, 69, 70, 71, 72, 73, 74] (fun p => [(42, .c (.int .i64 (p.1 : Nat)))]) (fun p => [wrO nw p.2.2, rwO nm p.2.1]) (fun p => p.1 ≤ vs.length ∧ Inv8 p.1 p.2.1 p.2.2 ∧ p.2.2.k ≤ 28) (fun p => vs.length - p.1) ((0, r0W, w0W)) ?_ (fun _ => rfl) ?_ ?_ ?_
    · exact ⟨Nat.zero_le _, inv_zero, by decide⟩
    · exact .cons (CEnt.refl _) .nil
    · exact HEnt.refl _
    · rintro ⟨i, r, s⟩ ⟨(hi : i ≤ vs.length), (hI : Inv8 i r s), (hk : s.k ≤ 28)⟩
      show ACode _ _ _ ⟨[(42, .c (.int .i64 (i : Nat)))], _, [wrO nw s, rwO nm r]⟩ _
      refine jcr ?_
      refine jq jrc ?_
      refine seq_nil ?_
      refine jcs ?_
      refine jcc (fun h24 => ?_) fun h24 => ?_
      · refine code_skip (jtn ?_)
        refine jcs ?_
        refine code_block ?_
        refine jcr ?_
        refine jq jrm ?_
        refine jq jri ?_
        refine jq (jrdrA 5) ?_
        refine jqe (jeal (n := 5) zr43 rfl fun p3 => ?_)
        refine jq jrm ?_
        refine jqm (jmst 5 ?_)
        refine seq_nil ?_
        refine jcs ?_
        have hmem : vs.getD i VV.none ∈ vs := by
            rw [List.getD_eq_getElem?_getD, List.getElem?_eq_getElem (by omega)]
            exact List.getElem_mem _
        have hsv : SmallV (vs.getD i VV.none) := ⟨hn _ hmem, (hlg.2 _ hmem).1, (hlg.2 _ hmem).2⟩
        refine jcr ?_
        refine jq jrm ?_
        refine jq jrm ?_
        refine jq jrc ?_
        refine seq_nil ?_
        refine jcc (fun h25 => ?_) fun h25 => ?_
        rotate_left
        · refine code_skip (jtn ?_)
          first
            | (rw [fail3 (show e ≠ 0 by omega)]; let S : W8 := failW e s; let R : R8 := ⟨r.tags, r.rows, if r.e = 0 then e else r.e⟩; have hI2 : Inv8 i R S := inv_fail hI e; have hk2 : S.k ≤ 28 := fail_k he2 hk)
            | (let S : W8 := s; let R : R8 := r; have hI2 : Inv8 i R S := hI; have hk2 : S.k ≤ 28 := hk)
          refine jcr ?_
          refine jq jrm ?_
          refine jqo (jrdoA 5) ?_
          refine jqm (jmcH 0 (put08_ac nw S (vs.getD i VV.none) (inv_okW hI2 (by omega)) hsv.ok) ?_)
          rintro _ _ ⟨rfl, rfl⟩
          refine ⟨_, _, rfl, CEnt.refl _, ?_⟩
          refine seq_nil ?_
          refine jcg ?_
          refine jq jrm ?_
          refine jqo (jrdoA 5) ?_
          refine jqm (jmcH 1 (rdoW_ac nm R (vs.getD i VV.none) (inv_okR hI2 (by omega)) hsv.ok) ?_)
          rintro _ _ ⟨rfl, rfl⟩
          refine ⟨_, _, rfl, CEnt.refl _, ?_⟩
          refine seq_nil ?_
          refine jbn (jtn ?_)
          refine jcg ?_
          refine jq jra ?_
          refine jq jrm ?_
          refine seq_nil ?_
          refine jtn ?_
          refine jlend ((i + 1, rdoS (vs.getD i VV.none) R, doW (vs.getD i VV.none) S)) ?_ ?_ (h5 := ?_) (h7 := ?_)
          · exact ⟨show i + 1 ≤ vs.length by omega, inv_do hI2 hsv, do_k _ hk2⟩
          · show vs.length - (i + 1) < vs.length - i; omega
          · exact .cons (CEnt.int (by omega)) .nil
          · exact HEnt.refl _
        refine jcr ?_
        refine jq jrm ?_
        refine jqm (jmcH 0 (failW_ac nw s 0) ?_)
        rintro _ _ ⟨rfl, rfl⟩
        refine ⟨_, _, rfl, CEnt.refl _, ?_⟩
        refine seq_nil ?_
        refine jcr ?_
        refine jq jrm ?_
        refine jq jrm ?_
        refine jqe (jecP (nerr_ac e he2) ?_)
        refine jqm (jmcH 0 (failW_ac nw (failW 0 s) e) ?_)
        rintro _ _ ⟨rfl, rfl⟩
        refine ⟨_, _, rfl, CEnt.refl _, ?_⟩
        refine seq_nil ?_
        refine jcs ?_
        refine code_openRW 1 rfl fun gr => ?_
        refine jcr ?_
        refine jq jrm ?_
        refine jq jrnc ?_
        refine jq (jrfa 2 1 false) ?_
        refine jqo jrdo ?_
        refine jq jrc ?_
        refine seq_nil ?_
        refine jcc (fun h28 => ?_) fun h28 => ?_
        rotate_left
        · refine code_skip (jtn ?_)
          refine code_ent (closeRW nm ⟨r.tags, r.rows, if r.e = 0 then e else r.e⟩ 1 3 rfl rfl rfl (CEnt.refl _) (CEnt.osI rfl) (CEnt.int (by (rw [if_neg (show ¬ r.e = 0 by omega)]; done))) (Nat.le_refl _) (fun _ _ => CEnt.refl _)) ?_
          refine jcg ?_
          refine jq jrm ?_
          refine jq (jrde 27) ?_
          refine jqm (jmcH 0 (failW_ac nw (failW e (failW 0 s)) 28) ?_)
          rintro _ _ ⟨rfl, rfl⟩
          refine ⟨_, _, rfl, CEnt.refl _, ?_⟩
          refine seq_nil ?_
          refine jtn ?_
          first
            | (rw [fail3 (show e ≠ 0 by omega)]; let S : W8 := failW e s; let R : R8 := ⟨r.tags, r.rows, if r.e = 0 then e else r.e⟩; have hI2 : Inv8 i R S := inv_fail hI e; have hk2 : S.k ≤ 28 := fail_k he2 hk)
            | (let S : W8 := s; let R : R8 := r; have hI2 : Inv8 i R S := hI; have hk2 : S.k ≤ 28 := hk)
          refine jcr ?_
          refine jq jrm ?_
          refine jqo (jrdoA 5) ?_
          refine jqm (jmcH 0 (put08_ac nw S (vs.getD i VV.none) (inv_okW hI2 (by omega)) hsv.ok) ?_)
          rintro _ _ ⟨rfl, rfl⟩
          refine ⟨_, _, rfl, CEnt.refl _, ?_⟩
          refine seq_nil ?_
          refine jcg ?_
          refine jq jrm ?_
          refine jqo (jrdoA 5) ?_
          refine jqm (jmcH 1 (rdoW_ac nm R (vs.getD i VV.none) (inv_okR hI2 (by omega)) hsv.ok) ?_)
          rintro _ _ ⟨rfl, rfl⟩
          refine ⟨_, _, rfl, CEnt.refl _, ?_⟩
          refine seq_nil ?_
          refine jbn (jtn ?_)
          refine jcg ?_
          refine jq jra ?_
          refine jq jrm ?_
          refine seq_nil ?_
          refine jtn ?_
          refine jlend ((i + 1, rdoS (vs.getD i VV.none) R, doW (vs.getD i VV.none) S)) ?_ ?_ (h5 := ?_) (h7 := ?_)
          · exact ⟨show i + 1 ≤ vs.length by omega, inv_do hI2 hsv, do_k _ hk2⟩
          · show vs.length - (i + 1) < vs.length - i; omega
          · exact .cons (CEnt.int (by omega)) .nil
          · exact HEnt.refl _
        refine jcg ?_
        refine jq jrm ?_
        refine jq jrm ?_
        refine jq jrnc ?_
        refine jq (jrfa 2 1 false) ?_
        refine jqm (jmstF 1 (rwB ⟨r.tags, r.rows, e⟩ 3 gr) ?_ ?_)
        · exact (fun j hj => by rcases j with _ | _ | _ | j <;> exact CEnt.refl _)
        refine seq_nil ?_
        refine jtn ?_
        refine code_ent (closeRW nm ⟨r.tags, r.rows, if r.e = 0 then e else r.e⟩ 1 3 rfl rfl rfl (CEnt.refl _) (CEnt.osI rfl) (CEnt.int (by (rw [if_pos (show r.e = 0 by omega)]; done))) (Nat.le_refl _) (fun _ _ => CEnt.refl _)) ?_
        refine jcg ?_
        refine jq jrm ?_
        refine jq (jrde 27) ?_
        refine jqm (jmcH 0 (failW_ac nw (failW e (failW 0 s)) 28) ?_)
        rintro _ _ ⟨rfl, rfl⟩
        refine ⟨_, _, rfl, CEnt.refl _, ?_⟩
        refine seq_nil ?_
        refine jtn ?_
        first
          | (rw [fail3 (show e ≠ 0 by omega)]; let S : W8 := failW e s; let R : R8 := ⟨r.tags, r.rows, if r.e = 0 then e else r.e⟩; have hI2 : Inv8 i R S := inv_fail hI e; have hk2 : S.k ≤ 28 := fail_k he2 hk)
          | (let S : W8 := s; let R : R8 := r; have hI2 : Inv8 i R S := hI; have hk2 : S.k ≤ 28 := hk)
        refine jcr ?_
        refine jq jrm ?_
        refine jqo (jrdoA 5) ?_
        refine jqm (jmcH 0 (put08_ac nw S (vs.getD i VV.none) (inv_okW hI2 (by omega)) hsv.ok) ?_)
        rintro _ _ ⟨rfl, rfl⟩
        refine ⟨_, _, rfl, CEnt.refl _, ?_⟩
        refine seq_nil ?_
        refine jcg ?_
        refine jq jrm ?_
        refine jqo (jrdoA 5) ?_
        refine jqm (jmcH 1 (rdoW_ac nm R (vs.getD i VV.none) (inv_okR hI2 (by omega)) hsv.ok) ?_)
        rintro _ _ ⟨rfl, rfl⟩
        refine ⟨_, _, rfl, CEnt.refl _, ?_⟩
        refine seq_nil ?_
        refine jbn (jtn ?_)
        refine jcg ?_
        refine jq jra ?_
        refine jq jrm ?_
        refine seq_nil ?_
        refine jtn ?_
        refine jlend ((i + 1, rdoS (vs.getD i VV.none) R, doW (vs.getD i VV.none) S)) ?_ ?_ (h5 := ?_) (h7 := ?_)
        · exact ⟨show i + 1 ≤ vs.length by omega, inv_do hI2 hsv, do_k _ hk2⟩
        · show vs.length - (i + 1) < vs.length - i; omega
        · exact .cons (CEnt.int (by omega)) .nil
        · exact HEnt.refl _
      refine code_exit (jte (jte (jbx (jtn ?_))))
      have hsd := same_done hI.same
      have hdk := done_k hk
      refine jcr ?_
      refine jq jrm ?_
      refine jqm (jmcH 0 (doneW_ac nw s (inv_okW hI (by omega))) ?_)
      rintro _ _ ⟨rfl, rfl⟩
      refine ⟨_, _, rfl, CEnt.refl _, ?_⟩
      refine jq jrm ?_
      refine jq jrx ?_
      refine jq jrx ?_
      refine jq jrm ?_
      refine jq jrm ?_
      refine seq_nil ?_
      refine jcs ?_
      refine jcr ?_
      refine jq jrm ?_
      refine jqm (jmcH 1 (rdone08_ac nm r (inv_okR hI (by omega))) ?_)
      rintro _ _ ⟨rfl, rfl⟩
      refine ⟨_, _, rfl, CEnt.refl _, ?_⟩
      refine jq jrm ?_
      refine jq jrx ?_
      refine jq jrx ?_
      refine jq jrm ?_
      refine jq jrm ?_
      refine seq_nil ?_
      refine jcr ?_
      refine jq jrm ?_
      refine jqe (jecP (num_ac (doneK s) hdk) ?_)
      refine jq jrm ?_
      refine jq jrc ?_
      refine jq jrm ?_
      refine jqsp 89 (fun g37 => ?_) fun g37 => ?_
      · refine jqs ?_
        refine jqs ?_
        refine jqs ?_
        refine jqs ?_
        refine jqs ?_
        refine jq jrpT ?_
        refine seq_nil ?_
        refine jcT ?_
        refine jcr ?_
        refine jq jrm ?_
        refine seq_nil ?_
        refine code_ret (jtr (jrt (hv := ?_)))
        exfalso
        (simp_all; done)
      refine jq jrm ?_
      refine jq jrbs ?_
      refine jq jrm ?_
      refine jq jrbs ?_
      refine jq jrcs ?_
      refine jq jrpF ?_
      refine seq_nil ?_
      refine jcc (fun h37 => ?_) fun h37 => ?_
      · refine jcr ?_
        refine jq jrm ?_
        refine seq_nil ?_
        refine code_ret (jtr (jrt (hv := ?_)))
        exfalso
        (simp_all; done)
      refine code_skip (jtn ?_)
      refine jcr ?_
      refine jqe (jebl 2 1 zr5 fun p5 => ?_)
      refine seq_ent (freeze 2 rfl) ?_
      refine seq_ent (thawBL 96 [48, 0] rfl rfl rfl rfl (.cons (CEnt.refl _) (.cons (CEnt.refl _) .nil))) ?_
      refine jqe (jecS (read08_ac [48, 0] (by decide)) ?_)
      rintro _ _ ⟨n3, rfl, rfl⟩
      refine jq jrm ?_
      refine seq_nil ?_
      refine jcs ?_
      rw [show (depthM [48, 0]).2 = 0 by decide]
      have hm1 : moreM [[48, 0]] 0 = true := rfl
      have hl1 : 0 < [[(48 : UInt8), 0]].length ∧ [[(48 : UInt8), 0]].length ≤ 1000000 := by decide
      have hb1 : (nowL [[48, 0]]).length ≤ 10000000 := by decide
      refine jcr ?_
      refine jq jrm ?_
      refine jq (rd_eqP rfl rfl rfl Tryz.underlying46) ?_
      refine jq jrm ?_
      refine jqsp 100 (fun g41 => ?_) fun g41 => ?_
      · refine jqs ?_
        refine jqs ?_
        refine jqs ?_
        refine jq jrpT ?_
        refine jq jrm ?_
        refine jqs ?_
        refine jqs ?_
        refine jqs ?_
        refine jq jrpT ?_
        refine seq_nil ?_
        refine jcT ?_
        refine jcr ?_
        refine jq jrm ?_
        refine seq_nil ?_
        refine code_ret (jtr (jrt (hv := ?_)))
        exfalso
        (simp_all; done)
      refine jq jrm ?_
      refine jqm (jmcH 3 (more_ac n3 [[48, 0]] 0 hl1) ?_)
      rintro _ _ ⟨rfl, rfl⟩
      refine ⟨_, _, rfl, CEnt.refl _, ?_⟩
      refine jq jrn ?_
      refine jq jrpF ?_
      refine jq jrm ?_
      refine jqsp 105 (fun g41_2 => ?_) fun g41_2 => ?_
      · refine jqs ?_
        refine jqs ?_
        refine jqs ?_
        refine jq jrpT ?_
        refine seq_nil ?_
        refine jcT ?_
        refine jcr ?_
        refine jq jrm ?_
        refine seq_nil ?_
        refine code_ret (jtr (jrt (hv := ?_)))
        exfalso
        (simp_all; done)
      refine jq jrm ?_
      refine jqm (jmcH 3 (peek_ac n3 [[48, 0]] 0 hl1) ?_)
      rintro _ _ ⟨rfl, rfl⟩
      refine ⟨_, _, rfl, CEnt.refl _, ?_⟩
      refine jq jrc ?_
      refine jq jrpF ?_
      refine seq_nil ?_
      refine jcc (fun h41 => ?_) fun h41 => ?_
      · refine jcr ?_
        refine jq jrm ?_
        refine seq_nil ?_
        refine code_ret (jtr (jrt (hv := ?_)))
        exfalso
        exact absurd (by rw [hm1]; rfl) h41
      refine code_skip (jtn ?_)
      refine jcr ?_
      refine jq jrm ?_
      refine jqm (jmcH 3 (fail08_ac n3 [[48, 0]] 0 0) ?_)
      rintro _ _ ⟨rfl, rfl⟩
      refine ⟨_, _, rfl, CEnt.refl _, ?_⟩
      refine seq_nil ?_
      refine jcs ?_
      rw [if_pos (show (0 : Nat) = 0 from rfl)]
      refine jcr ?_
      refine jq jrm ?_
      refine jqm (jmcH 3 (err08_ac n3 [[48, 0]] 0) ?_)
      rintro _ _ ⟨rfl, rfl⟩
      refine ⟨_, _, rfl, CEnt.refl _, ?_⟩
      refine jq jre ?_
      refine seq_nil ?_
      refine jcc (fun h45 => ?_) fun h45 => ?_
      · refine jcr ?_
        refine jq jrm ?_
        refine seq_nil ?_
        refine code_ret (jtr (jrt (hv := ?_)))
        exfalso
        (simp_all; done)
      refine code_skip (jtn ?_)
      refine jcr ?_
      refine jq jrm ?_
      refine jq jrm ?_
      refine jqe (jecP (nerr_ac e he2) ?_)
      refine jqm (jmcH 3 (fail08_ac n3 [[48, 0]] 0 e) ?_)
      rintro _ _ ⟨rfl, rfl⟩
      refine ⟨_, _, rfl, CEnt.refl _, ?_⟩
      refine seq_nil ?_
      rw [if_pos (show (0 : Nat) = 0 from rfl)]
      refine jcr ?_
      refine jq jrm ?_
      refine jq (jrde 27) ?_
      refine jqm (jmcH 3 (fail08_ac n3 [[48, 0]] e 28) ?_)
      rintro _ _ ⟨rfl, rfl⟩
      refine ⟨_, _, rfl, CEnt.refl _, ?_⟩
      refine seq_nil ?_
      rw [if_neg (show ¬ e = 0 by omega)]
      have hm2 : moreM [[48, 0]] e = false := by unfold moreM; simp; omega
      have hee : endK [[48, 0]] e = e := by unfold endK; rw [if_pos (by omega)]
      have hne : ∀ t, nextR t [[48, 0]] e = ⟨[[48, 0]], e, 0, [], [], false⟩ := fun t => by unfold nextR; rw [if_pos (by omega)]
      have hen : enterR 48 [[48, 0]] e = ⟨[[48, 0]], e, 0, [], [], false⟩ := by unfold enterR; rw [hm2, if_neg (by simp)]; exact hne _
      have hel : enterL 48 [[48, 0]] e = [[48, 0]] := by unfold enterL; rw [hen]; rfl
      refine jcr ?_
      refine jq jrm ?_
      refine jqm (jmcH 3 (err08_ac n3 [[48, 0]] e) ?_)
      rintro _ _ ⟨rfl, rfl⟩
      refine ⟨_, _, rfl, CEnt.refl _, ?_⟩
      refine jqe (jecP (num_ac e he2) ?_)
      refine jq jrm ?_
      refine jq jrc ?_
      refine jq jrm ?_
      refine jqsp 127 (fun g50 => ?_) fun g50 => ?_
      rotate_left
      · refine jqs ?_
        refine jqs ?_
        refine jqs ?_
        refine jqs ?_
        refine jqs ?_
        refine jq jrpF ?_
        refine jq jrm ?_
        refine jqs ?_
        refine jqs ?_
        refine jqs ?_
        refine jq jrpF ?_
        refine jq jrm ?_
        refine jqs ?_
        refine jqs ?_
        refine jqs ?_
        refine jq jrpF ?_
        refine jq jrm ?_
        refine jqs ?_
        refine jqs ?_
        refine jqs ?_
        refine jq jrpF ?_
        refine jq jrm ?_
        refine jqs ?_
        refine jqs ?_
        refine jqs ?_
        refine jq jrpF ?_
        refine jq jrm ?_
        refine seq_nil ?_
        refine code_ret (jrt (hv := ?_))
        refine CEnt.bool ?_
        (simp_all; done)
      refine jq jrm ?_
      refine jqm (jmcH 3 (end08_ac n3 [[48, 0]] e hl1) ?_)
      rintro _ _ ⟨rfl, rfl⟩
      refine ⟨_, _, rfl, CEnt.refl _, ?_⟩
      refine jqe (jecP (num_ac (endK [[48, 0]] e) (by rw [hee]; exact he2)) ?_)
      refine jq jrm ?_
      refine jq jrc ?_
      refine jq jrpT ?_
      refine jq jrm ?_
      refine jqsp 134 (fun g50_2 => ?_) fun g50_2 => ?_
      rotate_left
      · refine jqs ?_
        refine jqs ?_
        refine jqs ?_
        refine jq jrpF ?_
        refine jq jrm ?_
        refine jqs ?_
        refine jqs ?_
        refine jqs ?_
        refine jq jrpF ?_
        refine jq jrm ?_
        refine jqs ?_
        refine jqs ?_
        refine jqs ?_
        refine jq jrpF ?_
        refine jq jrm ?_
        refine jqs ?_
        refine jqs ?_
        refine jqs ?_
        refine jq jrpF ?_
        refine jq jrm ?_
        refine seq_nil ?_
        refine code_ret (jrt (hv := ?_))
        refine CEnt.bool ?_
        (simp_all; done)
      refine jq jrm ?_
      refine jqm (jmcH 3 (more_ac n3 [[48, 0]] e hl1) ?_)
      rintro _ _ ⟨rfl, rfl⟩
      refine ⟨_, _, rfl, CEnt.refl _, ?_⟩
      refine jq jrn ?_
      refine jq jrpT ?_
      refine jq jrm ?_
      refine jqsp 139 (fun g50_3 => ?_) fun g50_3 => ?_
      rotate_left
      · refine jqs ?_
        refine jqs ?_
        refine jqs ?_
        refine jq jrpF ?_
        refine jq jrm ?_
        refine jqs ?_
        refine jqs ?_
        refine jqs ?_
        refine jq jrpF ?_
        refine jq jrm ?_
        refine jqs ?_
        refine jqs ?_
        refine jqs ?_
        refine jq jrpF ?_
        refine jq jrm ?_
        refine seq_nil ?_
        refine code_ret (jrt (hv := ?_))
        refine CEnt.bool ?_
        (simp_all; done)
      refine jq jrm ?_
      refine jqm (jmcH 3 (peek_ac n3 [[48, 0]] e hl1) ?_)
      rintro _ _ ⟨rfl, rfl⟩
      refine ⟨_, _, rfl, CEnt.refl _, ?_⟩
      refine jq jrc ?_
      refine jq jrpT ?_
      refine jq jrm ?_
      refine jqsp 144 (fun g50_4 => ?_) fun g50_4 => ?_
      rotate_left
      · refine jqs ?_
        refine jqs ?_
        refine jqs ?_
        refine jq jrpF ?_
        refine jq jrm ?_
        refine jqs ?_
        refine jqs ?_
        refine jqs ?_
        refine jq jrpF ?_
        refine jq jrm ?_
        refine seq_nil ?_
        refine code_ret (jrt (hv := ?_))
        refine CEnt.bool ?_
        (simp_all; done)
      refine jq jrm ?_
      refine jqm (jmcH 3 (enter_ac n3 [[48, 0]] e 48 hl1 hb1) ?_)
      rintro _ _ ⟨rfl, rfl⟩
      refine ⟨_, _, rfl, CEnt.refl _, ?_⟩
      refine jq jrn ?_
      refine jq jrpT ?_
      refine jq jrm ?_
      refine jqsp 149 (fun g50_5 => ?_) fun g50_5 => ?_
      rotate_left
      · refine jqs ?_
        refine jqs ?_
        refine jqs ?_
        refine jq jrpF ?_
        refine jq jrm ?_
        refine seq_nil ?_
        refine code_ret (jrt (hv := ?_))
        refine CEnt.bool ?_
        (simp_all; done)
      refine jq jrm ?_
      refine jqm (jmcH 3 (int08_ac n3 (enterL 48 [[48, 0]] e) (enterR 48 [[48, 0]] e).k 0 9 (by rw [hel]; exact hl1) (by rw [hel]; exact hb1)) ?_)
      rintro _ _ ⟨rfl, rfl⟩
      refine ⟨_, _, rfl, CEnt.refl _, ?_⟩
      refine jq jrc ?_
      refine jq jrpT ?_
      refine jq jrm ?_
      refine seq_nil ?_
      refine code_ret (jrt (hv := ?_))
      refine CEnt.bool ?_
      (simp_all; done)
  refine jcg ?_
  refine jq jrm ?_
  refine jq (rd_convI rfl rfl Tryz.underlying3 Tryz.underlying77 ((at_ % 18446744073709551616)) ((by rw [IntKind.wrap_u64]))) ?_
  refine jq jrm ?_
  refine jq jrl ?_
  refine jq (rd_convI rfl rfl Tryz.underlying3 Tryz.underlying77 ((vs.length : Int)) ((by rw [IntKind.wrap_u64]; omega))) ?_
  refine jq jrr ?_
  refine jq (jrvW .u64 .i64) ?_
  refine jq jrm ?_
  refine seq_nil ?_
  refine jtn ?_
  refine jcs ?_
  refine jcr ?_
  refine jq jrm ?_
  refine jq jrl ?_
  refine jq jrm ?_
  refine seq_nil ?_
  refine code_block ?_
  refine l_loop (α := Nat × R8 × W8) [10, 11, 42, 43, 44, 45, 46, 47, 48, 49, 50, 51, 52, 53, 54, 55, 56, 57, 58, 59, 60, 61, 62, 63, 64, 65, 66, 67, 68, 69, 70, 71, 72, 73, 74] (fun p => [(42, .c (.int .i64 (p.1 : Nat)))]) (fun p => [wrO nw p.2.2, rwO nm p.2.1]) (fun p => p.1 ≤ vs.length ∧ Inv8 p.1 p.2.1 p.2.2 ∧ p.2.2.k ≤ 28) (fun p => vs.length - p.1) ((0, r0W, w0W)) ?_ (fun _ => rfl) ?_ ?_ ?_
  · exact ⟨Nat.zero_le _, inv_zero, by decide⟩
  · exact .cons (CEnt.refl _) .nil
  · exact HEnt.refl _
  · rintro ⟨i, r, s⟩ ⟨(hi : i ≤ vs.length), (hI : Inv8 i r s), (hk : s.k ≤ 28)⟩
    show ACode _ _ _ ⟨[(42, .c (.int .i64 (i : Nat)))], _, [wrO nw s, rwO nm r]⟩ _
    refine jcr ?_
    refine jq jrc ?_
    refine seq_nil ?_
    refine jcs ?_
    refine jcc (fun h24 => ?_) fun h24 => ?_
    · refine code_skip (jtn ?_)
      refine jcs ?_
      refine code_block ?_
      refine jcr ?_
      refine jq jrm ?_
      refine jq jri ?_
      refine jq (jrdrA 5) ?_
      refine jqe (jeal (n := 5) zr43 rfl fun p3 => ?_)
      refine jq jrm ?_
      refine jqm (jmst 5 ?_)
      refine seq_nil ?_
      refine jcs ?_
      have hmem : vs.getD i VV.none ∈ vs := by
          rw [List.getD_eq_getElem?_getD, List.getElem?_eq_getElem (by omega)]
          exact List.getElem_mem _
      have hsv : SmallV (vs.getD i VV.none) := ⟨hn _ hmem, (hlg.2 _ hmem).1, (hlg.2 _ hmem).2⟩
      refine jcr ?_
      refine jq jrm ?_
      refine jq jrm ?_
      refine jq jrc ?_
      refine seq_nil ?_
      refine jcc (fun h25 => ?_) fun h25 => ?_
      rotate_left
      · refine code_skip (jtn ?_)
        first
          | (rw [fail3 (show e ≠ 0 by omega)]; let S : W8 := failW e s; let R : R8 := ⟨r.tags, r.rows, if r.e = 0 then e else r.e⟩; have hI2 : Inv8 i R S := inv_fail hI e; have hk2 : S.k ≤ 28 := fail_k he2 hk)
          | (let S : W8 := s; let R : R8 := r; have hI2 : Inv8 i R S := hI; have hk2 : S.k ≤ 28 := hk)
        refine jcr ?_
        refine jq jrm ?_
        refine jqo (jrdoA 5) ?_
        refine jqm (jmcH 0 (put08_ac nw S (vs.getD i VV.none) (inv_okW hI2 (by omega)) hsv.ok) ?_)
        rintro _ _ ⟨rfl, rfl⟩
        refine ⟨_, _, rfl, CEnt.refl _, ?_⟩
        refine seq_nil ?_
        refine jcg ?_
        refine jq jrm ?_
        refine jqo (jrdoA 5) ?_
        refine jqm (jmcH 1 (rdoW_ac nm R (vs.getD i VV.none) (inv_okR hI2 (by omega)) hsv.ok) ?_)
        rintro _ _ ⟨rfl, rfl⟩
        refine ⟨_, _, rfl, CEnt.refl _, ?_⟩
        refine seq_nil ?_
        refine jbn (jtn ?_)
        refine jcg ?_
        refine jq jra ?_
        refine jq jrm ?_
        refine seq_nil ?_
        refine jtn ?_
        refine jlend ((i + 1, rdoS (vs.getD i VV.none) R, doW (vs.getD i VV.none) S)) ?_ ?_ (h5 := ?_) (h7 := ?_)
        · exact ⟨show i + 1 ≤ vs.length by omega, inv_do hI2 hsv, do_k _ hk2⟩
        · show vs.length - (i + 1) < vs.length - i; omega
        · exact .cons (CEnt.int (by omega)) .nil
        · exact HEnt.refl _
      refine jcr ?_
      refine jq jrm ?_
      refine jqm (jmcH 0 (failW_ac nw s 0) ?_)
      rintro _ _ ⟨rfl, rfl⟩
      refine ⟨_, _, rfl, CEnt.refl _, ?_⟩
      refine seq_nil ?_
      refine jcr ?_
      refine jq jrm ?_
      refine jq jrm ?_
      refine jqe (jecP (nerr_ac e he2) ?_)
      refine jqm (jmcH 0 (failW_ac nw (failW 0 s) e) ?_)
      rintro _ _ ⟨rfl, rfl⟩
      refine ⟨_, _, rfl, CEnt.refl _, ?_⟩
      refine seq_nil ?_
      refine jcs ?_
      refine code_openRW 1 rfl fun gr => ?_
      refine jcr ?_
      refine jq jrm ?_
      refine jq jrnc ?_
      refine jq (jrfa 2 1 false) ?_
      refine jqo jrdo ?_
      refine jq jrc ?_
      refine seq_nil ?_
      refine jcc (fun h28 => ?_) fun h28 => ?_
      rotate_left
      · refine code_skip (jtn ?_)
        refine code_ent (closeRW nm ⟨r.tags, r.rows, if r.e = 0 then e else r.e⟩ 1 3 rfl rfl rfl (CEnt.refl _) (CEnt.osI rfl) (CEnt.int (by (rw [if_neg (show ¬ r.e = 0 by omega)]; done))) (Nat.le_refl _) (fun _ _ => CEnt.refl _)) ?_
        refine jcg ?_
        refine jq jrm ?_
        refine jq (jrde 27) ?_
        refine jqm (jmcH 0 (failW_ac nw (failW e (failW 0 s)) 28) ?_)
        rintro _ _ ⟨rfl, rfl⟩
        refine ⟨_, _, rfl, CEnt.refl _, ?_⟩
        refine seq_nil ?_
        refine jtn ?_
        first
          | (rw [fail3 (show e ≠ 0 by omega)]; let S : W8 := failW e s; let R : R8 := ⟨r.tags, r.rows, if r.e = 0 then e else r.e⟩; have hI2 : Inv8 i R S := inv_fail hI e; have hk2 : S.k ≤ 28 := fail_k he2 hk)
          | (let S : W8 := s; let R : R8 := r; have hI2 : Inv8 i R S := hI; have hk2 : S.k ≤ 28 := hk)
        refine jcr ?_
        refine jq jrm ?_
        refine jqo (jrdoA 5) ?_
        refine jqm (jmcH 0 (put08_ac nw S (vs.getD i VV.none) (inv_okW hI2 (by omega)) hsv.ok) ?_)
        rintro _ _ ⟨rfl, rfl⟩
        refine ⟨_, _, rfl, CEnt.refl _, ?_⟩
        refine seq_nil ?_
        refine jcg ?_
        refine jq jrm ?_
        refine jqo (jrdoA 5) ?_
        refine jqm (jmcH 1 (rdoW_ac nm R (vs.getD i VV.none) (inv_okR hI2 (by omega)) hsv.ok) ?_)
        rintro _ _ ⟨rfl, rfl⟩
        refine ⟨_, _, rfl, CEnt.refl _, ?_⟩
        refine seq_nil ?_
        refine jbn (jtn ?_)
        refine jcg ?_
        refine jq jra ?_
        refine jq jrm ?_
        refine seq_nil ?_
        refine jtn ?_
        refine jlend ((i + 1, rdoS (vs.getD i VV.none) R, doW (vs.getD i VV.none) S)) ?_ ?_ (h5 := ?_) (h7 := ?_)
        · exact ⟨show i + 1 ≤ vs.length by omega, inv_do hI2 hsv, do_k _ hk2⟩
        · show vs.length - (i + 1) < vs.length - i; omega
        · exact .cons (CEnt.int (by omega)) .nil
        · exact HEnt.refl _
      refine jcg ?_
      refine jq jrm ?_
      refine jq jrm ?_
      refine jq jrnc ?_
      refine jq (jrfa 2 1 false) ?_
      refine jqm (jmstF 1 (rwB ⟨r.tags, r.rows, e⟩ 3 gr) ?_ ?_)
      · exact (fun j hj => by rcases j with _ | _ | _ | j <;> exact CEnt.refl _)
      refine seq_nil ?_
      refine jtn ?_
      refine code_ent (closeRW nm ⟨r.tags, r.rows, if r.e = 0 then e else r.e⟩ 1 3 rfl rfl rfl (CEnt.refl _) (CEnt.osI rfl) (CEnt.int (by (rw [if_pos (show r.e = 0 by omega)]; done))) (Nat.le_refl _) (fun _ _ => CEnt.refl _)) ?_
      refine jcg ?_
      refine jq jrm ?_
      refine jq (jrde 27) ?_
      refine jqm (jmcH 0 (failW_ac nw (failW e (failW 0 s)) 28) ?_)
      rintro _ _ ⟨rfl, rfl⟩
      refine ⟨_, _, rfl, CEnt.refl _, ?_⟩
      refine seq_nil ?_
      refine jtn ?_
      first
        | (rw [fail3 (show e ≠ 0 by omega)]; let S : W8 := failW e s; let R : R8 := ⟨r.tags, r.rows, if r.e = 0 then e else r.e⟩; have hI2 : Inv8 i R S := inv_fail hI e; have hk2 : S.k ≤ 28 := fail_k he2 hk)
        | (let S : W8 := s; let R : R8 := r; have hI2 : Inv8 i R S := hI; have hk2 : S.k ≤ 28 := hk)
      refine jcr ?_
      refine jq jrm ?_
      refine jqo (jrdoA 5) ?_
      refine jqm (jmcH 0 (put08_ac nw S (vs.getD i VV.none) (inv_okW hI2 (by omega)) hsv.ok) ?_)
      rintro _ _ ⟨rfl, rfl⟩
      refine ⟨_, _, rfl, CEnt.refl _, ?_⟩
      refine seq_nil ?_
      refine jcg ?_
      refine jq jrm ?_
      refine jqo (jrdoA 5) ?_
      refine jqm (jmcH 1 (rdoW_ac nm R (vs.getD i VV.none) (inv_okR hI2 (by omega)) hsv.ok) ?_)
      rintro _ _ ⟨rfl, rfl⟩
      refine ⟨_, _, rfl, CEnt.refl _, ?_⟩
      refine seq_nil ?_
      refine jbn (jtn ?_)
      refine jcg ?_
      refine jq jra ?_
      refine jq jrm ?_
      refine seq_nil ?_
      refine jtn ?_
      refine jlend ((i + 1, rdoS (vs.getD i VV.none) R, doW (vs.getD i VV.none) S)) ?_ ?_ (h5 := ?_) (h7 := ?_)
      · exact ⟨show i + 1 ≤ vs.length by omega, inv_do hI2 hsv, do_k _ hk2⟩
      · show vs.length - (i + 1) < vs.length - i; omega
      · exact .cons (CEnt.int (by omega)) .nil
      · exact HEnt.refl _
    refine code_exit (jte (jte (jbx (jtn ?_))))
    have hsd := same_done hI.same
    have hdk := done_k hk
    refine jcr ?_
    refine jq jrm ?_
    refine jqm (jmcH 0 (doneW_ac nw s (inv_okW hI (by omega))) ?_)
    rintro _ _ ⟨rfl, rfl⟩
    refine ⟨_, _, rfl, CEnt.refl _, ?_⟩
    refine jq jrm ?_
    refine jq jrx ?_
    refine jq jrx ?_
    refine jq jrm ?_
    refine jq jrm ?_
    refine seq_nil ?_
    refine jcs ?_
    refine jcr ?_
    refine jq jrm ?_
    refine jqm (jmcH 1 (rdone08_ac nm r (inv_okR hI (by omega))) ?_)
    rintro _ _ ⟨rfl, rfl⟩
    refine ⟨_, _, rfl, CEnt.refl _, ?_⟩
    refine jq jrm ?_
    refine jq jrx ?_
    refine jq jrx ?_
    refine jq jrm ?_
    refine jq jrm ?_
    refine seq_nil ?_
    refine jcr ?_
    refine jq jrm ?_
    refine jqe (jecP (num_ac (doneK s) hdk) ?_)
    refine jq jrm ?_
    refine jq jrc ?_
    refine jq jrm ?_
    refine jqsp 89 (fun g37 => ?_) fun g37 => ?_
    · refine jqs ?_
      refine jqs ?_
      refine jqs ?_
      refine jqs ?_
      refine jqs ?_
      refine jq jrpT ?_
      refine seq_nil ?_
      refine jcT ?_
      refine jcr ?_
      refine jq jrm ?_
      refine seq_nil ?_
      refine code_ret (jtr (jrt (hv := ?_)))
      exfalso
      (simp_all; done)
    refine jq jrm ?_
    refine jq jrbs ?_
    refine jq jrm ?_
    refine jq jrbs ?_
    refine jq jrcs ?_
    refine jq jrpF ?_
    refine seq_nil ?_
    refine jcc (fun h37 => ?_) fun h37 => ?_
    · refine jcr ?_
      refine jq jrm ?_
      refine seq_nil ?_
      refine code_ret (jtr (jrt (hv := ?_)))
      exfalso
      (simp_all; done)
    refine code_skip (jtn ?_)
    refine jcr ?_
    refine jqe (jebl 2 1 zr5 fun p5 => ?_)
    refine seq_ent (freeze 2 rfl) ?_
    refine seq_ent (thawBL 96 [48, 0] rfl rfl rfl rfl (.cons (CEnt.refl _) (.cons (CEnt.refl _) .nil))) ?_
    refine jqe (jecS (read08_ac [48, 0] (by decide)) ?_)
    rintro _ _ ⟨n3, rfl, rfl⟩
    refine jq jrm ?_
    refine seq_nil ?_
    refine jcs ?_
    rw [show (depthM [48, 0]).2 = 0 by decide]
    have hm1 : moreM [[48, 0]] 0 = true := rfl
    have hl1 : 0 < [[(48 : UInt8), 0]].length ∧ [[(48 : UInt8), 0]].length ≤ 1000000 := by decide
    have hb1 : (nowL [[48, 0]]).length ≤ 10000000 := by decide
    refine jcr ?_
    refine jq jrm ?_
    refine jq (rd_eqP rfl rfl rfl Tryz.underlying46) ?_
    refine jq jrm ?_
    refine jqsp 100 (fun g41 => ?_) fun g41 => ?_
    · refine jqs ?_
      refine jqs ?_
      refine jqs ?_
      refine jq jrpT ?_
      refine jq jrm ?_
      refine jqs ?_
      refine jqs ?_
      refine jqs ?_
      refine jq jrpT ?_
      refine seq_nil ?_
      refine jcT ?_
      refine jcr ?_
      refine jq jrm ?_
      refine seq_nil ?_
      refine code_ret (jtr (jrt (hv := ?_)))
      exfalso
      (simp_all; done)
    refine jq jrm ?_
    refine jqm (jmcH 3 (more_ac n3 [[48, 0]] 0 hl1) ?_)
    rintro _ _ ⟨rfl, rfl⟩
    refine ⟨_, _, rfl, CEnt.refl _, ?_⟩
    refine jq jrn ?_
    refine jq jrpF ?_
    refine jq jrm ?_
    refine jqsp 105 (fun g41_2 => ?_) fun g41_2 => ?_
    · refine jqs ?_
      refine jqs ?_
      refine jqs ?_
      refine jq jrpT ?_
      refine seq_nil ?_
      refine jcT ?_
      refine jcr ?_
      refine jq jrm ?_
      refine seq_nil ?_
      refine code_ret (jtr (jrt (hv := ?_)))
      exfalso
      (simp_all; done)
    refine jq jrm ?_
    refine jqm (jmcH 3 (peek_ac n3 [[48, 0]] 0 hl1) ?_)
    rintro _ _ ⟨rfl, rfl⟩
    refine ⟨_, _, rfl, CEnt.refl _, ?_⟩
    refine jq jrc ?_
    refine jq jrpF ?_
    refine seq_nil ?_
    refine jcc (fun h41 => ?_) fun h41 => ?_
    · refine jcr ?_
      refine jq jrm ?_
      refine seq_nil ?_
      refine code_ret (jtr (jrt (hv := ?_)))
      exfalso
      exact absurd (by rw [hm1]; rfl) h41
    refine code_skip (jtn ?_)
    refine jcr ?_
    refine jq jrm ?_
    refine jqm (jmcH 3 (fail08_ac n3 [[48, 0]] 0 0) ?_)
    rintro _ _ ⟨rfl, rfl⟩
    refine ⟨_, _, rfl, CEnt.refl _, ?_⟩
    refine seq_nil ?_
    refine jcs ?_
    rw [if_pos (show (0 : Nat) = 0 from rfl)]
    refine jcr ?_
    refine jq jrm ?_
    refine jqm (jmcH 3 (err08_ac n3 [[48, 0]] 0) ?_)
    rintro _ _ ⟨rfl, rfl⟩
    refine ⟨_, _, rfl, CEnt.refl _, ?_⟩
    refine jq jre ?_
    refine seq_nil ?_
    refine jcc (fun h45 => ?_) fun h45 => ?_
    · refine jcr ?_
      refine jq jrm ?_
      refine seq_nil ?_
      refine code_ret (jtr (jrt (hv := ?_)))
      exfalso
      (simp_all; done)
    refine code_skip (jtn ?_)
    refine jcr ?_
    refine jq jrm ?_
    refine jq jrm ?_
    refine jqe (jecP (nerr_ac e he2) ?_)
    refine jqm (jmcH 3 (fail08_ac n3 [[48, 0]] 0 e) ?_)
    rintro _ _ ⟨rfl, rfl⟩
    refine ⟨_, _, rfl, CEnt.refl _, ?_⟩
    refine seq_nil ?_
    rw [if_pos (show (0 : Nat) = 0 from rfl)]
    refine jcr ?_
    refine jq jrm ?_
    refine jq (jrde 27) ?_
    refine jqm (jmcH 3 (fail08_ac n3 [[48, 0]] e 28) ?_)
    rintro _ _ ⟨rfl, rfl⟩
    refine ⟨_, _, rfl, CEnt.refl _, ?_⟩
    refine seq_nil ?_
    rw [if_neg (show ¬ e = 0 by omega)]
    have hm2 : moreM [[48, 0]] e = false := by unfold moreM; simp; omega
    have hee : endK [[48, 0]] e = e := by unfold endK; rw [if_pos (by omega)]
    have hne : ∀ t, nextR t [[48, 0]] e = ⟨[[48, 0]], e, 0, [], [], false⟩ := fun t => by unfold nextR; rw [if_pos (by omega)]
    have hen : enterR 48 [[48, 0]] e = ⟨[[48, 0]], e, 0, [], [], false⟩ := by unfold enterR; rw [hm2, if_neg (by simp)]; exact hne _
    have hel : enterL 48 [[48, 0]] e = [[48, 0]] := by unfold enterL; rw [hen]; rfl
    refine jcr ?_
    refine jq jrm ?_
    refine jqm (jmcH 3 (err08_ac n3 [[48, 0]] e) ?_)
    rintro _ _ ⟨rfl, rfl⟩
    refine ⟨_, _, rfl, CEnt.refl _, ?_⟩
    refine jqe (jecP (num_ac e he2) ?_)
    refine jq jrm ?_
    refine jq jrc ?_
    refine jq jrm ?_
    refine jqsp 127 (fun g50 => ?_) fun g50 => ?_
    rotate_left
    · refine jqs ?_
      refine jqs ?_
      refine jqs ?_
      refine jqs ?_
      refine jqs ?_
      refine jq jrpF ?_
      refine jq jrm ?_
      refine jqs ?_
      refine jqs ?_
      refine jqs ?_
      refine jq jrpF ?_
      refine jq jrm ?_
      refine jqs ?_
      refine jqs ?_
      refine jqs ?_
      refine jq jrpF ?_
      refine jq jrm ?_
      refine jqs ?_
      refine jqs ?_
      refine jqs ?_
      refine jq jrpF ?_
      refine jq jrm ?_
      refine jqs ?_
      refine jqs ?_
      refine jqs ?_
      refine jq jrpF ?_
      refine jq jrm ?_
      refine seq_nil ?_
      refine code_ret (jrt (hv := ?_))
      refine CEnt.bool ?_
      (simp_all; done)
    refine jq jrm ?_
    refine jqm (jmcH 3 (end08_ac n3 [[48, 0]] e hl1) ?_)
    rintro _ _ ⟨rfl, rfl⟩
    refine ⟨_, _, rfl, CEnt.refl _, ?_⟩
    refine jqe (jecP (num_ac (endK [[48, 0]] e) (by rw [hee]; exact he2)) ?_)
    refine jq jrm ?_
    refine jq jrc ?_
    refine jq jrpT ?_
    refine jq jrm ?_
    refine jqsp 134 (fun g50_2 => ?_) fun g50_2 => ?_
    rotate_left
    · refine jqs ?_
      refine jqs ?_
      refine jqs ?_
      refine jq jrpF ?_
      refine jq jrm ?_
      refine jqs ?_
      refine jqs ?_
      refine jqs ?_
      refine jq jrpF ?_
      refine jq jrm ?_
      refine jqs ?_
      refine jqs ?_
      refine jqs ?_
      refine jq jrpF ?_
      refine jq jrm ?_
      refine jqs ?_
      refine jqs ?_
      refine jqs ?_
      refine jq jrpF ?_
      refine jq jrm ?_
      refine seq_nil ?_
      refine code_ret (jrt (hv := ?_))
      refine CEnt.bool ?_
      (simp_all; done)
    refine jq jrm ?_
    refine jqm (jmcH 3 (more_ac n3 [[48, 0]] e hl1) ?_)
    rintro _ _ ⟨rfl, rfl⟩
    refine ⟨_, _, rfl, CEnt.refl _, ?_⟩
    refine jq jrn ?_
    refine jq jrpT ?_
    refine jq jrm ?_
    refine jqsp 139 (fun g50_3 => ?_) fun g50_3 => ?_
    rotate_left
    · refine jqs ?_
      refine jqs ?_
      refine jqs ?_
      refine jq jrpF ?_
      refine jq jrm ?_
      refine jqs ?_
      refine jqs ?_
      refine jqs ?_
      refine jq jrpF ?_
      refine jq jrm ?_
      refine jqs ?_
      refine jqs ?_
      refine jqs ?_
      refine jq jrpF ?_
      refine jq jrm ?_
      refine seq_nil ?_
      refine code_ret (jrt (hv := ?_))
      refine CEnt.bool ?_
      (simp_all; done)
    refine jq jrm ?_
    refine jqm (jmcH 3 (peek_ac n3 [[48, 0]] e hl1) ?_)
    rintro _ _ ⟨rfl, rfl⟩
    refine ⟨_, _, rfl, CEnt.refl _, ?_⟩
    refine jq jrc ?_
    refine jq jrpT ?_
    refine jq jrm ?_
    refine jqsp 144 (fun g50_4 => ?_) fun g50_4 => ?_
    rotate_left
    · refine jqs ?_
      refine jqs ?_
      refine jqs ?_
      refine jq jrpF ?_
      refine jq jrm ?_
      refine jqs ?_
      refine jqs ?_
      refine jqs ?_
      refine jq jrpF ?_
      refine jq jrm ?_
      refine seq_nil ?_
      refine code_ret (jrt (hv := ?_))
      refine CEnt.bool ?_
      (simp_all; done)
    refine jq jrm ?_
    refine jqm (jmcH 3 (enter_ac n3 [[48, 0]] e 48 hl1 hb1) ?_)
    rintro _ _ ⟨rfl, rfl⟩
    refine ⟨_, _, rfl, CEnt.refl _, ?_⟩
    refine jq jrn ?_
    refine jq jrpT ?_
    refine jq jrm ?_
    refine jqsp 149 (fun g50_5 => ?_) fun g50_5 => ?_
    rotate_left
    · refine jqs ?_
      refine jqs ?_
      refine jqs ?_
      refine jq jrpF ?_
      refine jq jrm ?_
      refine seq_nil ?_
      refine code_ret (jrt (hv := ?_))
      refine CEnt.bool ?_
      (simp_all; done)
    refine jq jrm ?_
    refine jqm (jmcH 3 (int08_ac n3 (enterL 48 [[48, 0]] e) (enterR 48 [[48, 0]] e).k 0 9 (by rw [hel]; exact hl1) (by rw [hel]; exact hb1)) ?_)
    rintro _ _ ⟨rfl, rfl⟩
    refine ⟨_, _, rfl, CEnt.refl _, ?_⟩
    refine jq jrc ?_
    refine jq jrpT ?_
    refine jq jrm ?_
    refine seq_nil ?_
    refine code_ret (jrt (hv := ?_))
    refine CEnt.bool ?_
    (simp_all; done)
end Am
end Go.Proofs.YtjckfbpdieijeaaGreatDoor

/- Arguments that come in, by their types: from 'trod' to plain words. -/
namespace Go.Proofs.YtjckfbpdieijeaaGreatDoor
set_option linter.unusedVariables false
open Go.RowKit Go.ChangeShapes
namespace Am
/-- values of type t lie in k cells and read as E x for an x with φ -/
def Opens (P : Program) (t : TypeId) (k : Nat) (D : Type) (φ : D → Prop) (E : D → Nat → CV) : Prop :=
  ∀ (H : Type) (enc : TypeId × Value → H) (W : World) (fuel : Nat) (cs : List Value) (y : DataW H × List MemPlace), DataW.trod enc P W 0 (fun _ => true) true fuel t cs = some y →
    cs.length = k ∧ ∃ x : D, φ x ∧ ∀ al j, j < k → RepC al (fun b => b < W.heap.size) W (E x j) (cs.getD j undef)
section
variable {P : Program} {t : TypeId}
theorem one_cell {al : List Addr} {W : World} {St : Nat → Prop} {c : Nat → CV} {v : Value} (h : RepC al St W (c 0) v) : ∀ j, j < 1 → RepC al St W (c j) ([v].getD j undef) := fun j hj => by
  obtain rfl : j = 0 := by omega
  exact h
theorem opens_i64 (hu : P.underlying t = some (.int .i64)) : Opens P t 1 Int (fun z => -9223372036854775808 ≤ z ∧ z ≤ 9223372036854775807) (fun z _ => .c (.int .i64 z)) := fun H enc W fuel cs y h => by
  obtain ⟨n, rfl, _, hw⟩ := DataW.trod_int hu h
  exact ⟨rfl, n, bounds_i64 hw, fun al => one_cell rfl⟩
theorem opens_u8 (hu : P.underlying t = some (.int .u8)) : Opens P t 1 UInt8 (fun _ => True) (fun z _ => .c (.int .u8 (z.toNat : Nat))) := fun H enc W fuel cs y h => by
  obtain ⟨n, rfl, _, hw⟩ := DataW.trod_int hu h
  have hb := bounds_u8 hw
  refine ⟨rfl, UInt8.ofNat n.toNat, trivial, fun al => one_cell ?_⟩
  show Value.int .u8 n = .int .u8 ((UInt8.ofNat n.toNat).toNat : Nat)
  rw [UInt8.toNat_ofNat']
  congr 1
  omega
theorem opens_bool (hu : P.underlying t = some .bool) : Opens P t 1 Bool (fun _ => True) (fun z _ => .c (.bool z)) := fun H enc W fuel cs y h => by
  obtain ⟨n, rfl, _⟩ := DataW.trod_bool hu h
  exact ⟨rfl, n, trivial, fun al => one_cell rfl⟩
theorem opens_slice {e : TypeId} {k : Nat} {D : Type} {φ : D → Prop} {E : D → Nat → CV} (d0 : D) (ho : Opens P e k D φ E) (hu : P.underlying t = some (.slice e)) (hk : P.cellsOf e = k) (hk0 : 0 < k) :
    Opens P t 1 (List D) (fun l => l.length ≤ maxLen ∧ ∀ x ∈ l, φ x) (fun l _ => .rs k l.length fun i j => E (l.getD i d0) j) := fun H enc W fuel cs y h => by
  rcases DataW.trod_slice hu h with ⟨rfl, _⟩ | ⟨a, len, cap, elems, rest, n, _, rfl, _, _, hle, hm, hl, hel, _⟩
  · exact ⟨rfl, [], ⟨by simp, by simp⟩, fun al => one_cell ⟨none, 0, rfl, Nat.le_refl _, by decide, fun _ => rfl, fun _ h => by cases h⟩⟩
  · refine ⟨rfl, ?_⟩
    subst hk
    have key : ∀ i, ∃ x : D, i < len → φ x ∧ ∀ al j, j < P.cellsOf e → ∃ v, W.cell? (a.add (i * P.cellsOf e + j)) = some v ∧ RepC al (fun b => b < W.heap.size) W (E x j) v := fun i => by
      by_cases hi : i < len
      · have h1 := hel i hi
        rw [List.getElem?_eq_getElem (by omega)] at h1
        obtain ⟨cs, h2, h3⟩ := Option.bind_eq_some_iff.1 h1
        obtain ⟨_, h4, h5⟩ := World.cells?_some h2
        obtain ⟨_, x, hx, hr⟩ := ho H enc W n cs _ h3
        refine ⟨x, fun _ => ⟨hx, fun al j hj => ⟨cs.getD j undef, ?_, hr al j hj⟩⟩⟩
        have := h5 j hj
        rw [Addr.add_add] at this
        rw [this]
        simp [h4, hj]
      · exact ⟨d0, fun h => absurd h hi⟩
    obtain ⟨F, hF⟩ : ∃ F : Nat → D, ∀ i, i < len → φ (F i) ∧ ∀ al j, j < P.cellsOf e → ∃ v, W.cell? (a.add (i * P.cellsOf e + j)) = some v ∧ RepC al (fun b => b < W.heap.size) W (E (F i) j) v :=
      ⟨fun i => (key i).choose, fun i hi => (key i).choose_spec hi⟩
    have hm' : cap ≤ 9223372036854775807 := by unfold maxLen at hm; omega
    refine ⟨(List.range len).map F, ⟨by simp; omega, by simp only [List.mem_map, List.mem_range]; rintro x ⟨i, hi, rfl⟩; exact (hF i hi).1⟩, fun al => one_cell ?_⟩
    refine ⟨some a, cap, by simp, by simpa using hle, hm', by simp, fun b hb hn => ?_⟩
    cases hb
    simp at hn
    obtain ⟨v0, hv0, _⟩ := (hF 0 hn).2 al 0 hk0
    have hsp : a.spot = none := by
      have := World.cell?_spot hv0
      obtain ⟨b, o, sp⟩ := a
      simpa [Addr.add] using this
    refine ⟨hsp, ?_, fun i j hi hj => ?_⟩
    · have := World.block_lt_of_cell? W _ hv0
      obtain ⟨b, o, sp⟩ := a
      simpa [Addr.add] using this
    · simp at hi
      obtain ⟨v, hv, hr⟩ := (hF i hi).2 al j hj
      refine ⟨v, ?_, by simpa [List.getD, hi] using hr⟩
      obtain ⟨b, o, sp⟩ := a
      simp only at hsp
      subst hsp
      rwa [Addr.add_lit] at hv
/-- fields, one behind the other -/
def OpensF (P : Program) (fs : List Field) (D : Type) (φ : D → Prop) (E : D → Nat → CV) (C : Nat → Bool) : Prop :=
  ∀ (H : Type) (enc : TypeId × Value → H) (W : World) (cs : List Value), (∀ f ∈ fs, ∃ n y, DataW.trod enc P W 0 (fun _ => true) true n f.type ((cs.drop f.offset).take (P.cellsOf f.type)) = some y) →
    ∃ x : D, φ x ∧ ∀ al j, C j = true → RepC al (fun b => b < W.heap.size) W (E x j) (cs.getD j undef)
theorem opensF_nil : OpensF P [] Unit (fun _ => True) (fun _ _ => .top) (fun _ => false) := fun H enc W cs _ => ⟨(), trivial, fun al j h => by cases h⟩
theorem opensF_cons {f : Field} {fs : List Field} {k : Nat} {D1 D2 : Type} {φ1 : D1 → Prop} {φ2 : D2 → Prop} {E1 : D1 → Nat → CV} {E2 : D2 → Nat → CV} {C2 : Nat → Bool} (h1 : Opens P f.type k D1 φ1 E1) (h2 : OpensF P fs D2 φ2 E2 C2) :
    OpensF P (f :: fs) (D1 × D2) (fun x => φ1 x.1 ∧ φ2 x.2) (fun x j => match Nat.ble f.offset j && Nat.blt j (f.offset + k) with | true => E1 x.1 (j - f.offset) | false => E2 x.2 j) (fun j => (Nat.ble f.offset j && Nat.blt j (f.offset + k)) || C2 j) := fun H enc W cs h => by
  obtain ⟨n, y, hy⟩ := h f (List.mem_cons_self ..)
  obtain ⟨hl, x1, p1, r1⟩ := h1 H enc W n _ y hy
  obtain ⟨x2, p2, r2⟩ := h2 H enc W cs fun g hg => h g (List.mem_cons_of_mem _ hg)
  refine ⟨(x1, x2), ⟨p1, p2⟩, fun al j hj => ?_⟩
  cases hb : Nat.ble f.offset j && Nat.blt j (f.offset + k) with
  | true =>
    have hb0 := hb
    simp only [Bool.and_eq_true] at hb
    have b1 : f.offset ≤ j := Nat.le_of_ble_eq_true hb.1
    have b2 : j < f.offset + k := Nat.le_of_ble_eq_true hb.2
    have := r1 al (j - f.offset) (by omega)
    simp only [List.length_take, List.length_drop] at hl
    rw [List.getD_eq_getElem?_getD, List.getElem?_take, if_pos (by omega), List.getElem?_drop, show f.offset + (j - f.offset) = j by omega, ← List.getD_eq_getElem?_getD] at this
    simp only [hb0]
    exact this
  | false =>
    simp only [hb, Bool.false_or] at hj
    simp only [hb]
    exact r2 al j hj
theorem opens_struct {fs : Array Field} {n : Nat} {D : Type} {φ : D → Prop} {E : D → Nat → CV} {C : Nat → Bool} (hu : P.underlying t = some (.struct fs)) (hn : P.cellsOf t = n) (ho : OpensF P fs.toList D φ E C) (hC : (List.range n).all C = true) : Opens P t n D φ E := fun H enc W fuel cs y h => by
  obtain ⟨xs, m, _, _, hl, hlen, hf⟩ := DataW.trod_struct hu h
  obtain ⟨x, hx, hr⟩ := ho H enc W cs fun f hf' => by
    obtain ⟨i, hi⟩ := List.mem_iff_getElem?.1 hf'
    rw [Array.getElem?_toList] at hi
    have := hf i f hi
    have hlt : i < xs.length := by rw [hlen]; exact (Array.getElem?_eq_some_iff.1 hi).1
    rw [List.getElem?_eq_getElem hlt] at this
    exact ⟨m, _, this⟩
  exact ⟨hl.trans hn, x, hx, fun al j hj => hr al j (List.all_eq_true.1 hC j (List.mem_range.2 hj))⟩
theorem arg_one {D : Type} {φ : D → Prop} {E : D → Nat → CV} (ho : Opens P t 1 D φ E) {H : Type} {enc : TypeId × Value → H} {W : World} {v : Value} {d : DataW H} {p : List MemPlace} (hv : v.cells = #[v]) (h : DataW.Trod enc P W 0 (fun _ => true) true t v d p) :
    ∃ x : D, φ x ∧ ∀ al, RepC al (fun b => b < W.heap.size) W (E x 0) v := by
  obtain ⟨fuel, hf⟩ := h
  obtain ⟨_, x, hx, hr⟩ := ho H enc W fuel _ _ hf
  refine ⟨x, hx, fun al => ?_⟩
  have := hr al 0 (by decide)
  rw [hv] at this
  exact this
end
end Am
end Go.Proofs.YtjckfbpdieijeaaGreatDoor

/- Arguments that come in: texts as lists; lists in other words. -/
namespace Go.Proofs.YtjckfbpdieijeaaGreatDoor
set_option linter.unusedVariables false
open Go.RowKit Go.ChangeShapes
namespace Am
theorem opens_strL {P : Program} {t : TypeId} (hu : P.underlying t = some .string) : Opens P t 1 (List UInt8) (fun s => s.length ≤ maxLen) (fun z _ => strC z) := fun H enc W fuel cs y h => by
  obtain ⟨n, rfl, _, hs⟩ := DataW.trod_string hu h
  obtain ⟨l, rfl⟩ := ba_list n
  exact ⟨rfl, l, hs, fun al => one_cell rfl⟩
theorem map_getD {α β : Type} (f : α → β) (l : List α) {i : Nat} (d0 : α) (d1 : β) (h : i < l.length) : (l.map f).getD i d1 = f (l.getD i d0) := by simp [List.getD, h]
end Am
end Go.Proofs.YtjckfbpdieijeaaGreatDoor
