/- What the law leans on, part 4: P08, W03r, W03s, W07s, W07t, W07u, W08j, W04r, W08u, W08k, Shelf, W07v, W08l, W04s, W05, W05b, W05c, W05d, W05e, Laid, Tab, V8, P07e, W07p, P07c -/
import Derived.Test.YtgnjjenalebiaaaGreatDoorM3DerReads
import Derived.Shelf.SlSortCmp.Kit1
import Derived.Shelf.SlSortCmp.NoneTotal
import Derived.Ground.SlsfProg
import Derived.Shelf.Strings.Builder1
import Derived.Shelf.Strings.Builder2
import Derived.Shelf.Strings.OnBuilder
import Derived.Shelf.Small.Bits
import Derived.Shelf.Strconv.Itoa0
import Derived.Shelf.Strings.Search1
import Derived.Shelf.Strings.Search2
import Derived.Shelf.Strings.Search3
import Derived.Shelf.LaysM
import Derived.Shelf.Strings.Shaped
import Derived.Shelf.Unicode.Decode
import Derived.Shelf.Unicode.DecodeSlow
import Derived.Shelf.Unicode.DecodeAny
import Derived.Test.YtgnjjenalebiaaaGreatDoorProg
import Derived.Test.YtgnjjenalebiaaaGreatDoorRows
import Derived.LaidLaws
import Derived.MakeChecks
import Derived.Lib.LaidU8T
import Derived.Shelf.Unicode.ValidAny

/- Chapter 8, plain: what is written, value by value: the program's writer and the reference's. -/
namespace Go.Proofs.YtgnjjenalebiaaaGreatDoor
set_option linter.unusedVariables false
namespace Am
open Go.RowKit Cal
set_option maxRecDepth 100000

/-- a value as the laws tell it -/
structure VV where
  kind : Int
  n : Int
  is : Bool
  b : List UInt8
  t : List UInt8
def VV.none : VV := ⟨0, 0, false, [], []⟩
/-- a writer: the elements that are under way, the innermost one first; what is done; the error -/
structure W8 where
  fr : List (Int × List (List UInt8))
  d : List UInt8
  k : Nat
def failW (e : Nat) (s : W8) : W8 := if s.k = 0 then ⟨s.fr, s.d, e⟩ else s
def addW (b : List UInt8) (s : W8) : W8 := match s.fr with
  | [] => ⟨[], s.d ++ b, s.k⟩
  | x :: r => ⟨(x.1, x.2 ++ [b]) :: r, s.d, s.k⟩
def putW (tag : Int) (body : List UInt8) (e : Nat) (s : W8) : W8 :=
  if (failW e s).k ≠ 0 then failW e s else if putE tag body ≠ 0 then ⟨s.fr, s.d, putE tag body⟩ else addW (putL tag body) s
def openW (tag : Int) (s : W8) : W8 := if s.k ≠ 0 then s else if madeM tag = false then ⟨s.fr, s.d, 5⟩ else if s.fr.length = 16 then ⟨s.fr, s.d, 6⟩ else ⟨(tag, []) :: s.fr, s.d, s.k⟩
def bodyF (x : Int × List (List UInt8)) : List UInt8 := if x.1 = 49 then (sortL x.2).flatten else x.2.flatten
def closeV (s : W8) : W8 := if s.k ≠ 0 then s else match s.fr with
  | [] => ⟨[], s.d, 24⟩
  | x :: r => putW x.1 (bodyF x) 0 ⟨r, s.d, s.k⟩
def rawW (b : List UInt8) (s : W8) : W8 := if (failW (depthM b).2 s).k = 0 then addW b s else failW (depthM b).2 s
def doneK (s : W8) : Nat := if s.k ≠ 0 then s.k else if s.fr ≠ [] then 24 else if 65536 < s.d.length then 3 else 0
def doneB (s : W8) : List UInt8 := if doneK s = 0 then s.d else []
/-- the bits' body, and its error -/
def bitsL (n : Int) : List UInt8 := if n < 0 ∨ 32767 < n then [] else flagsL n.toNat
def bitsE (n : Int) : Nat := if n < 0 ∨ 32767 < n then 1 else 0
/-- a value's tag, body, error -/
def bodyV (v : VV) : Int × List UInt8 × Nat :=
  if v.kind = 3 then (2, putN v.n, 0) else
  if v.kind = 4 then (10, putN v.n, 0) else
  if v.kind = 5 then (1, [if v.is then 255 else 0], 0) else
  if v.kind = 6 then (4, v.b, 0) else
  if v.kind = 7 then (12, if askedM v.t v.n = 0 then v.t else [], askedM v.t v.n) else
  if v.kind = 8 then (6, putM v.t, (parseM v.t).2) else
  if v.kind = 9 then (24, if inT v.n then bodyL (ofM v.n) else [], ofE v.n) else (3, bitsL v.n, bitsE v.n)
/-- a value is written -/
def doW (v : VV) (s : W8) : W8 :=
  if v.kind = 1 then openW v.n s else if v.kind = 2 then closeV s else if v.kind = 11 then rawW v.b s else putW (bodyV v).1 (bodyV v).2.1 (bodyV v).2.2 s
/-! ### the reference's writer -/
structure R8 where
  tags : List Int
  rows : List (List (List UInt8))
  e : Nat
def padR (m : Nat) (r : List (List (List UInt8))) : List (List (List UInt8)) := r ++ List.replicate (m - r.length) []
def raddS (b : List UInt8) (s : R8) : R8 := ⟨s.tags, (padR (s.tags.length + 1) s.rows).set s.tags.length ((padR (s.tags.length + 1) s.rows).getD s.tags.length [] ++ [b]), s.e⟩
def rputS (tag : Int) (b : List UInt8) (s : R8) : R8 := if 65530 < b.length then ⟨s.tags, s.rows, 3⟩ else raddS (putL tag b) s
def ropenS (n : Int) (s : R8) : R8 := if madeM n = false then ⟨s.tags, s.rows, 5⟩ else if 16 ≤ s.tags.length then ⟨s.tags, s.rows, 6⟩ else ⟨s.tags ++ [n], (padR (s.tags.length + 2) s.rows).set (s.tags.length + 1) [], s.e⟩
def rcloseS (s : R8) : R8 := if s.tags.length = 0 then ⟨s.tags, s.rows, 24⟩ else
  rputS (s.tags.getD (s.tags.length - 1) 0) (bodyF (s.tags.getD (s.tags.length - 1) 0, s.rows.getD s.tags.length [])) ⟨s.tags.take (s.tags.length - 1), s.rows, s.e⟩
def rdoS (v : VV) (s : R8) : R8 :=
  if s.e ≠ 0 then s else if v.kind = 1 then ropenS v.n s else if v.kind = 2 then rcloseS s else
  if v.kind = 11 then (if (depthM v.b).2 ≠ 0 then ⟨s.tags, s.rows, (depthM v.b).2⟩ else raddS v.b s) else
  if (bodyV v).2.2 ≠ 0 then ⟨s.tags, s.rows, (bodyV v).2.2⟩ else rputS (bodyV v).1 (bodyV v).2.1 s
def rdoneE (s : R8) : Nat := if s.e ≠ 0 then s.e else if 0 < s.tags.length then 24 else if 65536 < (s.rows.getD 0 []).flatten.length then 3 else 0
def rdoneB (s : R8) : List UInt8 := if rdoneE s = 0 then (s.rows.getD 0 []).flatten else []
/-! ### they are the same -/
structure Same8 (r : R8) (s : W8) : Prop where
  tags : r.tags = (s.fr.map Prod.fst).reverse
  e : r.e = s.k
  row0 : (r.rows.getD 0 []).flatten = s.d
  row : ∀ j, j < s.fr.length → r.rows.getD (j + 1) [] = ((s.fr.map Prod.snd).reverse).getD j []
  len : r.tags.length ≠ 0 → r.tags.length < r.rows.length
  known : ∀ x ∈ s.fr, madeM x.1 = true
  lim : s.fr.length ≤ 16
end Am
end Go.Proofs.YtgnjjenalebiaaaGreatDoor

/- Chapter 3, the reference: the first element of bytes. -/
namespace Go.Proofs.YtgnjjenalebiaaaGreatDoor
set_option linter.unusedVariables false
namespace Am
open Go.RowKit
set_option maxRecDepth 100000

theorem nxE {b : List UInt8} {k : Nat} (h : nextM b = ⟨k, 0, [], []⟩) (hk : k ≠ 0) : CEnt (.tup 4 (fl [.c (.int .i64 0), .c (.int .i64 0), .c (.int .i64 0), .c (.int .i64 (k : Nat))])) (.tup 4 (fl [.c (.int .i64 (nextM b).tag), .c (.int .i64 (fromM b)), .c (.int .i64 (toM b)), .c (.int .i64 (nextM b).e)])) := by
  unfold fromM toM
  rw [h, if_neg hk, if_neg hk]
  exact CEnt.refl _
theorem nxO {b body rest : List UInt8} {t : Nat} {x y z : Int} (h : nextM b = ⟨0, t, body, rest⟩) (hx : x = (t : Nat)) (hy : y = ((b.length - rest.length - body.length : Nat) : Int)) (hz : z = ((b.length - rest.length : Nat) : Int)) : CEnt (.tup 4 (fl [.c (.int .i64 x), .c (.int .i64 y), .c (.int .i64 z), .c (.int .i64 0)])) (.tup 4 (fl [.c (.int .i64 (nextM b).tag), .c (.int .i64 (fromM b)), .c (.int .i64 (toM b)), .c (.int .i64 (nextM b).e)])) := by
  unfold fromM toM
  rw [h, if_pos rfl, if_pos rfl, hx, hy, hz]
  exact CEnt.refl _
theorem rnext_ac {gs : List Nat} (b : List UInt8) (hb : b.length ≤ 10000000) : ACp gs Tryz.prog 88 [bsC b] (.tup 4 (fl [.c (.int .i64 (nextM b).tag), .c (.int .i64 (fromM b)), .c (.int .i64 (toM b)), .c (.int .i64 (nextM b).e)])) := by
  refine ac_of 81 Tryz.func88 rfl rfl rfl (fun al w0 F0 St0 => ?_)
  refine jcr ?_
  refine jq jrm ?_
  refine jq jrm ?_
  refine jq jrm ?_
  refine jq jrm ?_
  refine seq_nil ?_
  refine jcs ?_
  refine jcr ?_
  refine jq jrm ?_
  refine jq jrl ?_
  refine jq jrc ?_
  refine seq_nil ?_
  refine jcc (fun h43 => ?_) fun h43 => ?_
  · refine jcr ?_
    refine jq jrm ?_
    refine jq jrm ?_
    refine jq jrm ?_
    refine jq jrm ?_
    refine seq_nil ?_
    refine code_ret (jtr (jrt (hv := nxE (k := 2) (by unfold nextM; rw [if_pos (by omega)]) (by decide))))
  refine code_skip (jtn ?_)
  refine jcs ?_
  refine jcr ?_
  refine jq jrm ?_
  refine jq (jri (i := 0)) ?_
  refine jq jrdr ?_
  refine jq (jrv8 .i64) ?_
  refine jqe (jecP (rknown_ac _) ?_)
  refine jq jrn ?_
  refine seq_nil ?_
  refine jcc (fun h46 => ?_) fun h46 => ?_
  · refine jcr ?_
    refine jq jrm ?_
    refine jq jrm ?_
    refine jq jrm ?_
    refine jq jrm ?_
    refine seq_nil ?_
    refine code_ret (jtr (jrt (hv := nxE (k := 5) (by unfold nextM; rw [if_neg (by omega), if_pos (by simpa using h46)]) (by decide))))
  refine code_skip (jtn ?_)
  refine jcs ?_
  obtain ⟨t, ht⟩ : ∃ t, t = (b.getD 0 0).toNat := ⟨_, rfl⟩
  have hk : knownM (t : Nat) = true := by rw [ht]; simpa using h46
  have hN := nextM_ne (by omega) ht hk rfl
  refine jcr ?_
  refine jq jrm ?_
  refine jq jrl ?_
  refine jq jrc ?_
  refine seq_nil ?_
  refine jcc (fun h49 => ?_) fun h49 => ?_
  · refine jcr ?_
    refine jq jrm ?_
    refine jq jrm ?_
    refine jq jrm ?_
    refine jq jrm ?_
    refine seq_nil ?_
    refine code_ret (jtr (jrt (hv := ?_)))
    have hm : measM (b.drop 1) = ⟨2, 0, []⟩ := by unfold measM; rw [if_pos (by rw [List.length_drop]; omega)]
    exact nxE (k := 2) (by rw [hN, hm]; rfl) (by decide)
  refine code_skip (jtn ?_)
  refine jcr ?_
  refine jq jrm ?_
  refine jq (jri (i := 1)) ?_
  refine jq jrdr ?_
  refine jq (jrv8 .i64) ?_
  refine jq jrm ?_
  refine jq jrm ?_
  refine seq_nil ?_
  refine jcs ?_
  obtain ⟨c, hc⟩ : ∃ c, c = (b.getD 1 0).toNat := ⟨_, rfl⟩
  have c8 : c < 256 := by rw [hc]; exact (b.getD 1 0).toNat_lt
  refine code_ent (weaken 6 (.c (.int .i64 (c : Nat))) (CEnt.int (by rw [hc]))) ?_
  refine jcr ?_
  refine jq jrm ?_
  refine jq jrc ?_
  refine seq_nil ?_
  refine jcc (fun h53 => ?_) fun h53 => ?_
  rotate_left
  · refine code_skip (jtn ?_)
    refine jcs ?_
    first
      | have hM2 := meas_short (b := b) (by omega) (by omega)
      | (rw [if_neg (by omega), if_neg (by omega), if_pos (Classical.not_not.1 h66)] at hM; have hM2 := hM)
    rw [hM2] at hN
    dsimp only at hN
    rw [if_neg (by decide)] at hN
    refine jcr ?_
    refine jq jrm ?_
    refine jq jrc ?_
    refine seq_nil ?_
    refine jcc (fun h70 => ?_) fun h70 => ?_
    · refine jcr ?_
      refine jq jrm ?_
      refine jq jrm ?_
      refine jq jrm ?_
      refine jq jrm ?_
      refine seq_nil ?_
      refine code_ret (jtr (jrt (hv := nxE (k := 3) (by rw [hN, if_pos (by omega)]) (by decide))))
    refine code_skip (jtn ?_)
    refine jcs ?_
    refine jcr ?_
    refine jq jrm ?_
    refine jq jrm ?_
    refine jq jrl ?_
    refine jq jrm ?_
    refine jq jra ?_
    refine jq jrc ?_
    refine seq_nil ?_
    refine jcc (fun h73 => ?_) fun h73 => ?_
    · refine jcr ?_
      refine jq jrm ?_
      refine jq jrm ?_
      refine jq jrm ?_
      refine jq jrm ?_
      refine seq_nil ?_
      refine code_ret (jtr (jrt (hv := nxE (k := 2) (by rw [hN, if_neg (by omega), if_pos (by rw [List.length_drop]; omega)]) (by decide))))
    refine code_skip (jtn ?_)
    refine jcr ?_
    refine jq jrm ?_
    refine jq (jri (i := 0)) ?_
    refine jq jrdr ?_
    refine jq (jrv8 .i64) ?_
    refine jq jrm ?_
    refine jq jrm ?_
    refine jq jrm ?_
    refine jq jra ?_
    refine jq jrm ?_
    refine jq jrm ?_
    refine jq jrm ?_
    refine jq jrm ?_
    refine seq_nil ?_
    refine code_ret (jrt (hv := nxO (by rw [hN, if_neg (by omega), if_neg (by rw [List.length_drop]; omega)]) (by rw [ht]) (by simp only [List.length_drop, List.length_take]; omega) (by simp only [List.length_drop]; omega)))
  refine jcr ?_
  refine jq jrm ?_
  refine jq jra ?_
  refine jq jrm ?_
  refine seq_nil ?_
  refine jcs ?_
  obtain ⟨k, hk8⟩ : ∃ k, c = 128 + k := ⟨c - 128, by omega⟩
  have hM := meas_long (b := b) (k := k) (by omega) (by omega)
  refine code_ent (weaken 8 (.c (.int .i64 (k : Nat))) (CEnt.int (by omega))) ?_
  refine jcr ?_
  refine jq jrm ?_
  refine jq jrc ?_
  refine jq jrm ?_
  refine jqsp 32 (fun g55 => ?_) fun g55 => ?_
  · refine jqs ?_
    refine jqs ?_
    refine jq jrpT ?_
    refine seq_nil ?_
    refine jcT ?_
    refine jcr ?_
    refine jq jrm ?_
    refine jq jrm ?_
    refine jq jrm ?_
    refine jq jrm ?_
    refine seq_nil ?_
    refine code_ret (jtr (jtr (jrt (hv := ?_))))
    rw [if_pos (by omega)] at hM
    exact nxE (k := 4) (by rw [hN, hM]; rfl) (by decide)
  refine jq jrm ?_
  refine jq jrc ?_
  refine jq jrpF ?_
  refine seq_nil ?_
  refine jcc (fun h55 => ?_) fun h55 => ?_
  · refine jcr ?_
    refine jq jrm ?_
    refine jq jrm ?_
    refine jq jrm ?_
    refine jq jrm ?_
    refine seq_nil ?_
    refine code_ret (jtr (jtr (jrt (hv := ?_))))
    rw [if_pos (by omega)] at hM
    exact nxE (k := 4) (by rw [hN, hM]; rfl) (by decide)
  refine code_skip (jtn ?_)
  refine jcs ?_
  refine jcr ?_
  refine jq jrm ?_
  refine jq jrl ?_
  refine jq jra ?_
  refine jq jrm ?_
  refine jq jrc ?_
  refine seq_nil ?_
  refine jcc (fun h58 => ?_) fun h58 => ?_
  · refine jcr ?_
    refine jq jrm ?_
    refine jq jrm ?_
    refine jq jrm ?_
    refine jq jrm ?_
    refine seq_nil ?_
    refine code_ret (jtr (jtr (jrt (hv := ?_))))
    rw [if_neg (by omega), if_pos (by omega)] at hM
    exact nxE (k := 2) (by rw [hN, hM]; rfl) (by decide)
  refine code_skip (jtn ?_)
  have hk4 : 1 ≤ k ∧ k ≤ 4 := by omega
  have htl : ((b.drop 2).take k).length = k := by simp; omega
  refine jcr ?_
  refine jq jrm ?_
  refine seq_nil ?_
  refine jcs ?_
  refine jcr ?_
  refine jq jrm ?_
  refine seq_nil ?_
  refine code_block ?_
  refine l_loop (α := Nat) [6, 9, 41, 42, 43, 44, 45, 46, 47, 48, 49, 50, 51, 52, 53, 54] (fun i => [(6, .c (.int .i64 (beN (((b.drop 2).take k).take i) : Nat))), (9, .c (.int .i64 (i : Nat)))]) (fun _ => []) (fun i => i ≤ k) (fun i => k - i) (0) ?_ (fun _ => rfl) ?_ ?_ ?_
  · exact Nat.zero_le _
  · (repeat (first | exact EntE.nil | refine EntE.cons (CEnt.refl _) ?_ | refine EntE.cons (CEnt.int (by omega)) ?_))
  · (repeat (first | exact HEnt.nil | refine HEnt.same ?_ | refine HEnt.blk rfl (fun j hj => by rcases j with _|_|_|_|_|_|_|_|j <;> first | exact CEnt.refl _ | exact CEnt.int (by omega) | omega) ?_))
  · rintro i (hi : i ≤ k)
    refine jcs ?_
    refine jcr ?_
    refine jq jrm ?_
    refine jq jrm ?_
    refine jq jrc ?_
    refine seq_nil ?_
    refine jcc (fun h62 => ?_) fun h62 => ?_
    · refine code_skip (jtn ?_)
      refine jcs ?_
      refine code_block ?_
      have hbn := beN_lt (((b.drop 2).take k).take i)
      have hbl : (((b.drop 2).take k).take i).length = i := by simp; omega
      have hb3 : beN (((b.drop 2).take k).take i) < 16777216 := by
        rw [hbl] at hbn
        have : i ≤ 3 := by omega
        have := Nat.pow_le_pow_right (n := 256) (by decide) this
        omega
      have hc8 := (b.getD (2 + i) 0).toNat_lt
      refine jcg ?_
      refine jq jrm ?_
      refine jq jra ?_
      refine jq jrm ?_
      refine jq jrm ?_
      refine jq jra ?_
      refine jq (jri (i := (2 + i)) (hz := by omega)) ?_
      refine jq jrdr ?_
      refine jq (jrv8 .i64) ?_
      refine jq jra ?_
      refine jq jrm ?_
      refine seq_nil ?_
      refine jbn (jtn ?_)
      refine jcg ?_
      refine jq jrm ?_
      refine jq jra ?_
      refine jq jrm ?_
      refine seq_nil ?_
      refine jtn ?_
      refine jlend (i + 1) ?_ ?_ (h5 := ?_)
      · show i + 1 ≤ k; omega
      · omega
      · exact .cons (CEnt.int (by rw [beN_take (by omega), get_take (by omega)]; omega)) (.cons (CEnt.refl _) .nil)
    refine code_exit (jte (jte (jbx (jtn ?_))))
    obtain rfl : k = i := by omega
    have hb4 : beN ((b.drop 2).take k) < 4294967296 := by
      have h := beN_lt ((b.drop 2).take k)
      rw [htl] at h
      have := Nat.pow_le_pow_right (n := 256) (by decide) hk4.2
      omega
    refine code_ent (weaken 6 (.c (.int .i64 (beN ((b.drop 2).take k) : Nat))) (CEnt.int (by rw [List.take_take, Nat.min_self]))) ?_
    refine jcr ?_
    refine jq jrm ?_
    refine jq jra ?_
    refine jq jrm ?_
    refine seq_nil ?_
    refine jcs ?_
    refine jcd (.rd 0 (.rd 3 (.rd 4 (.rd 5 (.rd 6 (.one 1 (.rd 2 (.rd 7 .done)))))))) ?_
    refine jyq jrm ?_
    refine jyq jrm ?_
    refine jyq jrm ?_
    refine jyq (jrsb (hz1 := (show (1 : Int) = ((1 : Nat) : Int) from rfl))) ?_
    refine jyq jrbs ?_
    refine jye (jecP (rlen_ac (beN ((b.drop 2).take k)) (by omega)) ?_ (ho := rfl) (he := (.cons (se rfl (CEnt.int (by omega))) .nil)))
    refine jyq jrbs ?_
    refine jyq jrcs ?_
    refine jyd ?_
    refine jtn ?_
    refine jcc (fun h66 => ?_) fun h66 => ?_
    · refine jcr ?_
      refine jq jrm ?_
      refine jq jrm ?_
      refine jq jrm ?_
      refine jq jrm ?_
      refine seq_nil ?_
      refine code_ret (jtr (jrt (hv := ?_)))
      rw [if_neg (by omega), if_neg (by omega), if_neg h66] at hM
      exact nxE (k := 4) (by rw [hN, hM]; rfl) (by decide)
    refine code_skip (jtn ?_)
    refine jcs ?_
    first
      | have hM2 := meas_short (b := b) (by omega) (by omega)
      | (rw [if_neg (by omega), if_neg (by omega), if_pos (Classical.not_not.1 h66)] at hM; have hM2 := hM)
    rw [hM2] at hN
    dsimp only at hN
    rw [if_neg (by decide)] at hN
    refine jcr ?_
    refine jq jrm ?_
    refine jq jrc ?_
    refine seq_nil ?_
    refine jcc (fun h70 => ?_) fun h70 => ?_
    · refine jcr ?_
      refine jq jrm ?_
      refine jq jrm ?_
      refine jq jrm ?_
      refine jq jrm ?_
      refine seq_nil ?_
      refine code_ret (jtr (jrt (hv := nxE (k := 3) (by rw [hN, if_pos (by omega)]) (by decide))))
    refine code_skip (jtn ?_)
    refine jcs ?_
    refine jcr ?_
    refine jq jrm ?_
    refine jq jrm ?_
    refine jq jrl ?_
    refine jq jrm ?_
    refine jq jra ?_
    refine jq jrc ?_
    refine seq_nil ?_
    refine jcc (fun h73 => ?_) fun h73 => ?_
    · refine jcr ?_
      refine jq jrm ?_
      refine jq jrm ?_
      refine jq jrm ?_
      refine jq jrm ?_
      refine seq_nil ?_
      refine code_ret (jtr (jrt (hv := nxE (k := 2) (by rw [hN, if_neg (by omega), if_pos (by rw [List.length_drop]; omega)]) (by decide))))
    refine code_skip (jtn ?_)
    refine jcr ?_
    refine jq jrm ?_
    refine jq (jri (i := 0)) ?_
    refine jq jrdr ?_
    refine jq (jrv8 .i64) ?_
    refine jq jrm ?_
    refine jq jrm ?_
    refine jq jrm ?_
    refine jq jra ?_
    refine jq jrm ?_
    refine jq jrm ?_
    refine jq jrm ?_
    refine jq jrm ?_
    refine seq_nil ?_
    refine code_ret (jrt (hv := nxO (by rw [hN, if_neg (by omega), if_neg (by rw [List.length_drop]; omega)]) (by rw [ht]) (by simp only [List.length_drop, List.length_take]; omega) (by simp only [List.length_drop]; omega)))
end Am
end Go.Proofs.YtgnjjenalebiaaaGreatDoor

/- Chapter 3, the reference: how many levels the elements of a body have. -/
namespace Go.Proofs.YtgnjjenalebiaaaGreatDoor
set_option linter.unusedVariables false
namespace Am
open Go.RowKit
set_option maxRecDepth 100000

theorem loopW_err {rec : Nat → List UInt8 → Nat × Nat} {set : Bool} {lv : Nat} : ∀ {fuel : Nat} {b last : List UInt8} {dp : Nat}, (loopW rec set lv fuel b last dp).2 ≠ 0 → (loopW rec set lv fuel b last dp).1 = 0
  | 0, b, last, dp, h => by simp [loopW] at h
  | fuel + 1, b, last, dp, h => by
    unfold loopW at h ⊢
    split
    · rename_i h1; rw [if_pos h1] at h; exact absurd rfl h
    · rename_i h1; rw [if_neg h1] at h
      split
      · rfl
      · rename_i h2; rw [if_neg h2] at h
        split
        · rfl
        · rename_i h3; rw [if_neg h3] at h
          split
          · rfl
          · rename_i h4; rw [if_neg h4] at h
            split
            · rfl
            · rename_i h5; rw [if_neg h5] at h
              exact loopW_err h
theorem loopW_pos {rec : Nat → List UInt8 → Nat × Nat} {set : Bool} {lv : Nat} : ∀ {fuel : Nat} {b last : List UInt8} {dp : Nat}, 1 ≤ dp → (loopW rec set lv fuel b last dp).2 = 0 → 1 ≤ (loopW rec set lv fuel b last dp).1
  | 0, b, last, dp, hd, h => hd
  | fuel + 1, b, last, dp, hd, h => by
    have hn := nextM_bd b
    unfold loopW at h ⊢
    split
    · exact hd
    · rename_i h1; rw [if_neg h1] at h
      split
      · rename_i h2; rw [if_pos h2] at h; exact absurd h h2
      · rename_i h2; rw [if_neg h2] at h
        split
        · rename_i h3; rw [if_pos h3] at h; exact absurd h (by decide)
        · rename_i h3; rw [if_neg h3] at h
          split
          · rename_i h4; rw [if_pos h4] at h; exact absurd h h4
          · rename_i h4; rw [if_neg h4] at h
            split
            · rename_i h5; rw [if_pos h5] at h; exact absurd h (by decide)
            · rename_i h5; rw [if_neg h5] at h
              exact loopW_pos (by omega) h
theorem wholeM_pos {lv tag : Nat} {body : List UInt8} (h : (wholeM lv tag body).2 = 0) : 1 ≤ (wholeM lv tag body).1 := by
  match lv with
  | 0 => simp [wholeM]
  | lv + 1 =>
    unfold wholeM at h ⊢
    split
    · simp
    · rename_i h1; rw [if_neg h1] at h
      exact loopW_pos (Nat.le_refl _) h
/-- all levels of a body's elements, as the reference has them -/
def allW (lv : Nat) (set : Bool) (body : List UInt8) : Nat × Nat := loopW (wholeM lv) set (lv + 1) body.length body [] 1
theorem take_toM {b : List UInt8} (h : (nextM b).e = 0) : toM b = b.length - (nextM b).rest.length := by unfold toM; rw [if_pos h]
theorem nextM_cut {b : List UInt8} (h : (nextM b).e = 0) : (nextM b).body = (b.take (toM b)).drop (fromM b) ∧ (nextM b).rest = b.drop (toM b) ∧ fromM b ≤ toM b ∧ toM b ≤ b.length := by
  obtain ⟨n, k, hk, hr, hn, hkl, hb⟩ : ∃ n k, k ≤ b.length ∧ (nextM b).rest = (b.drop k).drop n ∧ n ≤ b.length - k ∧ k ≤ b.length ∧ (nextM b).body = (b.drop k).take n := by
    have hm : ∀ c : List UInt8, (measM c).e = 0 → ∃ k, k ≤ c.length ∧ (measM c).rest = c.drop k := by
      intro c
      unfold measM
      split
      · intro h; exact absurd h (by decide)
      · dsimp only
        split
        · exact fun _ => ⟨1, by omega, rfl⟩
        · split
          · intro h; exact absurd h (by decide)
          · split
            · intro h; exact absurd h (by decide)
            · split
              · intro h; exact absurd h (by decide)
              · rename_i h1 h2 h3 h4 h5
                rw [List.length_drop] at h4
                exact fun _ => ⟨1 + ((c.getD 0 0).toNat - 128), by omega, by dsimp only; rw [List.drop_drop]⟩
    unfold nextM at h ⊢
    split
    · rename_i h1; rw [if_pos h1] at h; exact absurd h (by decide)
    · rename_i h1; rw [if_neg h1] at h
      split
      · rename_i h2; rw [if_pos h2] at h; exact absurd h (by decide)
      · rename_i h2; rw [if_neg h2] at h
        dsimp only at h ⊢
        split
        · rename_i h3; rw [if_pos h3] at h; exact absurd h h3
        · rename_i h3; rw [if_neg h3] at h
          split
          · rename_i h4; rw [if_pos h4] at h; exact absurd h (by decide)
          · rename_i h4; rw [if_neg h4] at h
            split
            · rename_i h5; rw [if_pos h5] at h; exact absurd h (by decide)
            · rename_i h5
              obtain ⟨k, hk, hr⟩ := hm (b.drop 1) (by omega)
              rw [List.length_drop] at hk
              rw [hr, List.length_drop, List.length_drop] at h5
              exact ⟨(measM (b.drop 1)).n, 1 + k, by omega, by rw [hr, List.drop_drop], by omega, by omega, by rw [hr, List.drop_drop]⟩
  have e1 : toM b = k + n := by
    rw [take_toM h, hr, List.length_drop, List.length_drop]
    omega
  have e2 : fromM b = k := by
    unfold fromM
    rw [if_pos h, hb, hr, List.length_take, List.length_drop, List.length_drop]
    omega
  rw [e1, e2, hb, hr]
  refine ⟨?_, by rw [List.drop_drop], by omega, by omega⟩
  rw [List.drop_take]
  congr 1
  omega

theorem wholeM_not {lv tag : Nat} {body : List UInt8} (h : madeM tag = false) : wholeM lv tag body = (1, 0) := by
  match lv with
  | 0 => rfl
  | lv + 1 => unfold wholeM; rw [if_pos h]
theorem rwhole_ac {gs : List Nat} : ∀ (lv : Nat) (set : Bool) (body : List UInt8), lv ≤ 16 → body.length ≤ 1000000 → ACp gs Tryz.prog 89 [bsC body, .c (.int .i64 (lv : Nat)), .c (.bool set)] (.tup 2 (fl [.c (.int .i64 ((allW lv set body).1 - 1 : Nat)), .c (.int .i64 (allW lv set body).2)])) := by
  intro lv
  induction lv using Nat.strongRecOn with
  | _ lv ih =>
  intro set body hlv hbody
  have ih' : 1 ≤ lv → ∀ (tag : Nat) (body : List UInt8), madeM tag = true → body.length ≤ 1000000 → ACp gs Tryz.prog 89 [bsC body, .c (.int .i64 ((lv : Int) - 1)), .c (.bool (decide (tag = 49)))] (.tup 2 (fl [.c (.int .i64 ((wholeM lv tag body).1 - 1 : Nat)), .c (.int .i64 (wholeM lv tag body).2)])) := fun h tag body hm hb => by
    have := ih (lv - 1) (by omega) (decide (tag = 49)) body (by omega) hb
    have e : wholeM lv tag body = allW (lv - 1) (decide (tag = 49)) body := by
      obtain ⟨m, rfl⟩ : ∃ m, lv = m + 1 := ⟨lv - 1, by omega⟩
      unfold wholeM allW
      rw [if_neg (by rw [hm]; exact Bool.noConfusion)]
      rfl
    rw [e, show (lv : Int) - 1 = ((lv - 1 : Nat) : Int) by omega]
    exact this
  have hR : ∀ t b, (wholeM lv t b).1 ≤ lv + 1 ∧ (wholeM lv t b).2 ≤ 7 := fun t b => wholeM_bd lv t b
  refine ac_of 73 Tryz.func89 rfl rfl rfl (fun al w0 F0 St0 => ?_)
  refine jcr ?_
  refine jq jrm ?_
  refine jq jrm ?_
  refine seq_nil ?_
  refine jcr ?_
  refine jq jrm ?_
  refine seq_nil ?_
  refine jcr ?_
  refine jqe (jebl 0 1 zr5 fun p1 => ?_)
  refine jq jrm ?_
  refine seq_nil ?_
  refine jcs ?_
  refine code_block ?_
  refine code_ent (freeze 0 rfl) ?_
  refine code_ent (thaw 9 (fun i _ => byF [] i) rfl rfl (by omega) (fun a b ha hb => absurd ha (Nat.not_lt_zero a))) ?_
  refine code_ent (pick_ent (H' := []) [] (by decide) rfl) ?_
  refine l_loop (α := WS) [0, 6, 7, 8, 9, 10, 11, 12, 13, 14, 15, 16, 18, 19, 20, 21, 22, 23, 24, 25, 26, 27, 28, 29, 30, 31, 32, 33, 34, 35, 36, 37, 38, 39, 40, 41, 42, 43, 44, 45, 46, 47, 48, 49, 50, 51, 52, 53, 54, 55, 56, 57, 58, 59, 60, 61, 62, 63, 64, 65, 66, 67, 68, 69, 70, 71] (fun x => [(0, bsC x.b), (8, .c (.int .i64 ((x.dp - 1 : Nat) : Int))), (9, bsC x.last)]) (fun _ => []) (fun x => 1 ≤ x.dp ∧ x.b.length ≤ x.f ∧ x.b.length ≤ 1000000 ∧ x.dp ≤ lv + 2 ∧ loopW (wholeM lv) set (lv + 1) x.f x.b x.last x.dp = allW lv set body) (fun x => x.f) (⟨body.length, body, [], 1⟩) ?_ (fun _ => rfl) ?_ ?_ ?_
  · exact ⟨Nat.le_refl _, Nat.le_refl _, hbody, by show 1 ≤ lv + 2; omega, rfl⟩
  · (repeat (first | exact EntE.nil | refine EntE.cons (CEnt.refl _) ?_ | refine EntE.cons (CEnt.int (by omega)) ?_))
  · (repeat (first | exact HEnt.nil | refine HEnt.same ?_ | refine HEnt.blk rfl (fun j hj => by rcases j with _|_|_|_|_|_|_|_|j <;> first | exact CEnt.refl _ | exact CEnt.int (by omega) | omega) ?_))
  · rintro x ⟨hd1, hxf, hxb', hdp, hw⟩
    have hxb : x.b.length ≤ 10000000 := by omega
    have hnb := nextM_bd x.b
    refine jcs ?_
    refine jcr ?_
    refine jq jrm ?_
    refine jq jrl ?_
    refine jq jrc ?_
    refine seq_nil ?_
    refine jcc (fun h97 => ?_) fun h97 => ?_
    rotate_left
    · refine code_exit (jte (jte (jbx (jtn ?_))))
      refine jcr ?_
      refine jq jrm ?_
      refine jq jrm ?_
      refine jq jrm ?_
      refine seq_nil ?_
      refine code_ret (jrt (hv := ?_))
      obtain hnil : x.b = [] := List.eq_nil_of_length_eq_zero (by omega)
      rw [hnil, loopW_nil] at hw
      rw [← hw]
      exact CEnt.refl _
    refine code_skip (jtn ?_)
    refine code_block ?_
    refine jcr ?_
    refine jq jrm ?_
    refine jqe (jecP (rnext_ac x.b hxb) ?_)
    refine jq jrm ?_
    refine jq jrx ?_
    refine jq jrx ?_
    refine jq jrx ?_
    refine jq jrx ?_
    refine jq jrm ?_
    refine jq jrm ?_
    refine jq jrm ?_
    refine jq jrm ?_
    refine seq_nil ?_
    refine jcs ?_
    refine jcr ?_
    refine jq jrm ?_
    refine jq jrc ?_
    refine seq_nil ?_
    refine jcc (fun h99 => ?_) fun h99 => ?_
    · refine jcr ?_
      refine jq jrm ?_
      refine jq jrm ?_
      refine jq jrm ?_
      refine seq_nil ?_
      refine code_ret (jtr (jbr (jtr (jbr (jtr (jrt (hv := ?_)))))))
      rw [← hw, loopW_step _ _ _ _ _ _ _ (by omega) hxf, if_pos (by omega)]
      exact CEnt.refl _
    refine code_skip (jtn ?_)
    refine jcs ?_
    have he : ¬(nextM x.b).e ≠ 0 := by omega
    have hcut := nextM_cut (b := x.b) (by omega)
    have htm := take_toM (b := x.b) (by omega)
    refine jcr ?_
    refine jq jrm ?_
    refine jq jrc ?_
    refine seq_nil ?_
    refine jcc (fun h102 => ?_) fun h102 => ?_
    · refine jcr ?_
      refine jq jrm ?_
      refine jq jrm ?_
      refine seq_nil ?_
      refine code_ret (jtr (jbr (jtr (jbr (jtr (jrt (hv := ?_)))))))
      rw [← hw, loopW_step _ _ _ _ _ _ _ (by omega) hxf, if_neg he, if_pos (by omega)]
      exact CEnt.refl _
    refine code_skip (jtn ?_)
    have hW := hR (nextM x.b).tag (nextM x.b).body
    refine jcr ?_
    refine jq jrm ?_
    refine seq_nil ?_
    refine jcs ?_
    refine jcr ?_
    refine jq jrm ?_
    refine jqe (jecP (rmade_ac _) ?_)
    refine seq_nil ?_
    refine jcc (fun h106 => ?_) fun h106 => ?_
    rotate_left
    · refine code_skip (jtn ?_)
      refine jcs ?_
      refine jcs ?_
      have hw0 : ¬(wholeM lv (nextM x.b).tag (nextM x.b).body).2 ≠ 0 := by (rw [wholeM_not (decide_eq_false h106)]; decide)
      have hw1 := wholeM_pos (Classical.not_not.1 hw0)
      refine code_ent (weaken 14 (.c (.int .i64 ((wholeM lv (nextM x.b).tag (nextM x.b).body).1 : Nat))) (CEnt.int (by (rw [wholeM_not (decide_eq_false h106)]; rfl)))) ?_
      refine jcd (.rd 0 (.rd 1 (.rd 2 (.rd 3 (.rd 4 (.rd 5 (.rd 6 (.rd 7 (.rd 8 (.rd 9 .done)))))))))) ?_
      refine jyq jrm ?_
      refine jyq jrm ?_
      refine jysp 53 (fun g113 => ?_) fun g113 => ?_
      rotate_left
      · refine jys ?_
        refine jys ?_
        refine jys ?_
        refine jys ?_
        refine jys ?_
        refine jys ?_
        refine jys ?_
        refine jyq jrpF ?_
        refine jyd ?_
        refine jtn ?_
        refine jcF ?_
        refine code_skip (jtn ?_)
        refine jcs ?_
        have hset : ¬(set = true ∧ Op.bytesLess (x.b.take (x.b.length - (nextM x.b).rest.length)) x.last = true) := by
          rintro ⟨h1, h2⟩
          rw [← htm] at h2
          (rw [h1] at g113; exact absurd g113 (by decide))
        refine jcr ?_
        refine jq jrm ?_
        refine jq jrm ?_
        refine jq jrc ?_
        refine seq_nil ?_
        refine jcc (fun h116 => ?_) fun h116 => ?_
        rotate_left
        · refine code_skip (jtn ?_)
          refine jcr ?_
          refine jq jrm ?_
          refine jq jrm ?_
          refine jq jrst ?_
          refine jq jrm ?_
          refine seq_nil ?_
          refine jcg ?_
          refine jq jrm ?_
          refine jq jrm ?_
          refine jq jrsf ?_
          refine jq jrm ?_
          refine seq_nil ?_
          refine jbn (jtn ?_)
          refine jlend (⟨x.f - 1, (nextM x.b).rest, x.b.take (x.b.length - (nextM x.b).rest.length), max x.dp ((wholeM lv (nextM x.b).tag (nextM x.b).body).1 + 1)⟩) ?_ ?_ (h5 := ?_)
          · exact ⟨by dsimp only; omega, by dsimp only; omega, by dsimp only; omega, by dsimp only; omega, by
              dsimp only
              rw [← hw, loopW_step _ _ _ _ _ _ _ (by omega) hxf, if_neg he, if_neg (by omega), if_neg hw0, if_neg hset]⟩
          · dsimp only
            omega
          · exact .cons (CEnt.bs hcut.2.1.symm) (.cons (CEnt.int (by dsimp only; omega)) (.cons (CEnt.bs (by rw [htm])) .nil))
        refine jcg ?_
        refine jq jrm ?_
        refine jq jrm ?_
        refine seq_nil ?_
        refine jtn ?_
        refine jcr ?_
        refine jq jrm ?_
        refine jq jrm ?_
        refine jq jrst ?_
        refine jq jrm ?_
        refine seq_nil ?_
        refine jcg ?_
        refine jq jrm ?_
        refine jq jrm ?_
        refine jq jrsf ?_
        refine jq jrm ?_
        refine seq_nil ?_
        refine jbn (jtn ?_)
        refine jlend (⟨x.f - 1, (nextM x.b).rest, x.b.take (x.b.length - (nextM x.b).rest.length), max x.dp ((wholeM lv (nextM x.b).tag (nextM x.b).body).1 + 1)⟩) ?_ ?_ (h5 := ?_)
        · exact ⟨by dsimp only; omega, by dsimp only; omega, by dsimp only; omega, by dsimp only; omega, by
            dsimp only
            rw [← hw, loopW_step _ _ _ _ _ _ _ (by omega) hxf, if_neg he, if_neg (by omega), if_neg hw0, if_neg hset]⟩
        · dsimp only
          omega
        · exact .cons (CEnt.bs hcut.2.1.symm) (.cons (CEnt.int (by dsimp only; omega)) (.cons (CEnt.bs (by rw [htm])) .nil))
      refine jyq jrm ?_
      refine jyq jrm ?_
      refine jyq jrst ?_
      refine jyq jrbs ?_
      refine jyq jrm ?_
      refine jyq jrbs ?_
      refine jyq jrcs ?_
      refine jyq jrpT ?_
      refine jyd ?_
      refine jtn ?_
      refine jcc (fun h113 => ?_) fun h113 => ?_
      · refine jcr ?_
        refine jq jrm ?_
        refine jq jrm ?_
        refine seq_nil ?_
        refine code_ret (jtr (jbr (jtr (jbr (jtr (jrt (hv := ?_)))))))
        rw [← hw, loopW_step _ _ _ _ _ _ _ (by omega) hxf, if_neg he, if_neg (by omega), if_neg hw0, if_pos ⟨by assumption, by rw [← htm]; simpa using h113⟩]
        exact CEnt.refl _
      refine code_skip (jtn ?_)
      refine jcs ?_
      have hset : ¬(set = true ∧ Op.bytesLess (x.b.take (x.b.length - (nextM x.b).rest.length)) x.last = true) := by
        rintro ⟨h1, h2⟩
        rw [← htm] at h2
        (rw [h2] at h113; exact absurd h113 (by decide))
      refine jcr ?_
      refine jq jrm ?_
      refine jq jrm ?_
      refine jq jrc ?_
      refine seq_nil ?_
      refine jcc (fun h116 => ?_) fun h116 => ?_
      rotate_left
      · refine code_skip (jtn ?_)
        refine jcr ?_
        refine jq jrm ?_
        refine jq jrm ?_
        refine jq jrst ?_
        refine jq jrm ?_
        refine seq_nil ?_
        refine jcg ?_
        refine jq jrm ?_
        refine jq jrm ?_
        refine jq jrsf ?_
        refine jq jrm ?_
        refine seq_nil ?_
        refine jbn (jtn ?_)
        refine jlend (⟨x.f - 1, (nextM x.b).rest, x.b.take (x.b.length - (nextM x.b).rest.length), max x.dp ((wholeM lv (nextM x.b).tag (nextM x.b).body).1 + 1)⟩) ?_ ?_ (h5 := ?_)
        · exact ⟨by dsimp only; omega, by dsimp only; omega, by dsimp only; omega, by dsimp only; omega, by
            dsimp only
            rw [← hw, loopW_step _ _ _ _ _ _ _ (by omega) hxf, if_neg he, if_neg (by omega), if_neg hw0, if_neg hset]⟩
        · dsimp only
          omega
        · exact .cons (CEnt.bs hcut.2.1.symm) (.cons (CEnt.int (by dsimp only; omega)) (.cons (CEnt.bs (by rw [htm])) .nil))
      refine jcg ?_
      refine jq jrm ?_
      refine jq jrm ?_
      refine seq_nil ?_
      refine jtn ?_
      refine jcr ?_
      refine jq jrm ?_
      refine jq jrm ?_
      refine jq jrst ?_
      refine jq jrm ?_
      refine seq_nil ?_
      refine jcg ?_
      refine jq jrm ?_
      refine jq jrm ?_
      refine jq jrsf ?_
      refine jq jrm ?_
      refine seq_nil ?_
      refine jbn (jtn ?_)
      refine jlend (⟨x.f - 1, (nextM x.b).rest, x.b.take (x.b.length - (nextM x.b).rest.length), max x.dp ((wholeM lv (nextM x.b).tag (nextM x.b).body).1 + 1)⟩) ?_ ?_ (h5 := ?_)
      · exact ⟨by dsimp only; omega, by dsimp only; omega, by dsimp only; omega, by dsimp only; omega, by
          dsimp only
          rw [← hw, loopW_step _ _ _ _ _ _ _ (by omega) hxf, if_neg he, if_neg (by omega), if_neg hw0, if_neg hset]⟩
      · dsimp only
        omega
      · exact .cons (CEnt.bs hcut.2.1.symm) (.cons (CEnt.int (by dsimp only; omega)) (.cons (CEnt.bs (by rw [htm])) .nil))
    refine jcr ?_
    refine jq jrm ?_
    refine jq jrm ?_
    refine jq jrm ?_
    refine jq jrsb ?_
    refine jq jrm ?_
    refine jq jra ?_
    refine jq jrm ?_
    refine jq jrc ?_
    refine jqe (jecP (ih' (by omega) (nextM x.b).tag (nextM x.b).body (decide_eq_true h106) (by omega)) ?_ (ho := rfl) (he := (.cons (se rfl (CEnt.bs hcut.1.symm)) (.cons (se rfl (CEnt.refl _)) (.cons (se rfl (CEnt.bool (decide_eq_decide.2 (by omega)))) .nil)))))
    refine jq jrm ?_
    refine jq jrx ?_
    refine jq jrx ?_
    refine jq jrm ?_
    refine jq jrm ?_
    refine seq_nil ?_
    refine jcs ?_
    refine jcr ?_
    refine jq jrm ?_
    refine jq jrc ?_
    refine seq_nil ?_
    refine jcc (fun h108 => ?_) fun h108 => ?_
    · refine jcr ?_
      refine jq jrm ?_
      refine jq jrm ?_
      refine jq jrm ?_
      refine seq_nil ?_
      refine code_ret (jtr (jtr (jbr (jtr (jbr (jtr (jrt (hv := ?_))))))))
      rw [← hw, loopW_step _ _ _ _ _ _ _ (by omega) hxf, if_neg he, if_neg (by omega), if_pos (by omega)]
      exact CEnt.refl _
    refine code_skip (jtn ?_)
    refine jcg ?_
    refine jq jrm ?_
    refine jq jra ?_
    refine jq jrm ?_
    refine seq_nil ?_
    refine jtn ?_
    refine jcs ?_
    refine jcs ?_
    have hw0 : ¬(wholeM lv (nextM x.b).tag (nextM x.b).body).2 ≠ 0 := by omega
    have hw1 := wholeM_pos (Classical.not_not.1 hw0)
    refine code_ent (weaken 14 (.c (.int .i64 ((wholeM lv (nextM x.b).tag (nextM x.b).body).1 : Nat))) (CEnt.int (by omega))) ?_
    refine jcd (.rd 0 (.rd 1 (.rd 2 (.rd 3 (.rd 4 (.rd 5 (.rd 6 (.rd 7 (.rd 8 (.rd 9 .done)))))))))) ?_
    refine jyq jrm ?_
    refine jyq jrm ?_
    refine jysp 53 (fun g113 => ?_) fun g113 => ?_
    rotate_left
    · refine jys ?_
      refine jys ?_
      refine jys ?_
      refine jys ?_
      refine jys ?_
      refine jys ?_
      refine jys ?_
      refine jyq jrpF ?_
      refine jyd ?_
      refine jtn ?_
      refine jcF ?_
      refine code_skip (jtn ?_)
      refine jcs ?_
      have hset : ¬(set = true ∧ Op.bytesLess (x.b.take (x.b.length - (nextM x.b).rest.length)) x.last = true) := by
        rintro ⟨h1, h2⟩
        rw [← htm] at h2
        (rw [h1] at g113; exact absurd g113 (by decide))
      refine jcr ?_
      refine jq jrm ?_
      refine jq jrm ?_
      refine jq jrc ?_
      refine seq_nil ?_
      refine jcc (fun h116 => ?_) fun h116 => ?_
      rotate_left
      · refine code_skip (jtn ?_)
        refine jcr ?_
        refine jq jrm ?_
        refine jq jrm ?_
        refine jq jrst ?_
        refine jq jrm ?_
        refine seq_nil ?_
        refine jcg ?_
        refine jq jrm ?_
        refine jq jrm ?_
        refine jq jrsf ?_
        refine jq jrm ?_
        refine seq_nil ?_
        refine jbn (jtn ?_)
        refine jlend (⟨x.f - 1, (nextM x.b).rest, x.b.take (x.b.length - (nextM x.b).rest.length), max x.dp ((wholeM lv (nextM x.b).tag (nextM x.b).body).1 + 1)⟩) ?_ ?_ (h5 := ?_)
        · exact ⟨by dsimp only; omega, by dsimp only; omega, by dsimp only; omega, by dsimp only; omega, by
            dsimp only
            rw [← hw, loopW_step _ _ _ _ _ _ _ (by omega) hxf, if_neg he, if_neg (by omega), if_neg hw0, if_neg hset]⟩
        · dsimp only
          omega
        · exact .cons (CEnt.bs hcut.2.1.symm) (.cons (CEnt.int (by dsimp only; omega)) (.cons (CEnt.bs (by rw [htm])) .nil))
      refine jcg ?_
      refine jq jrm ?_
      refine jq jrm ?_
      refine seq_nil ?_
      refine jtn ?_
      refine jcr ?_
      refine jq jrm ?_
      refine jq jrm ?_
      refine jq jrst ?_
      refine jq jrm ?_
      refine seq_nil ?_
      refine jcg ?_
      refine jq jrm ?_
      refine jq jrm ?_
      refine jq jrsf ?_
      refine jq jrm ?_
      refine seq_nil ?_
      refine jbn (jtn ?_)
      refine jlend (⟨x.f - 1, (nextM x.b).rest, x.b.take (x.b.length - (nextM x.b).rest.length), max x.dp ((wholeM lv (nextM x.b).tag (nextM x.b).body).1 + 1)⟩) ?_ ?_ (h5 := ?_)
      · exact ⟨by dsimp only; omega, by dsimp only; omega, by dsimp only; omega, by dsimp only; omega, by
          dsimp only
          rw [← hw, loopW_step _ _ _ _ _ _ _ (by omega) hxf, if_neg he, if_neg (by omega), if_neg hw0, if_neg hset]⟩
      · dsimp only
        omega
      · exact .cons (CEnt.bs hcut.2.1.symm) (.cons (CEnt.int (by dsimp only; omega)) (.cons (CEnt.bs (by rw [htm])) .nil))
    refine jyq jrm ?_
    refine jyq jrm ?_
    refine jyq jrst ?_
    refine jyq jrbs ?_
    refine jyq jrm ?_
    refine jyq jrbs ?_
    refine jyq jrcs ?_
    refine jyq jrpT ?_
    refine jyd ?_
    refine jtn ?_
    refine jcc (fun h113 => ?_) fun h113 => ?_
    · refine jcr ?_
      refine jq jrm ?_
      refine jq jrm ?_
      refine seq_nil ?_
      refine code_ret (jtr (jbr (jtr (jbr (jtr (jrt (hv := ?_)))))))
      rw [← hw, loopW_step _ _ _ _ _ _ _ (by omega) hxf, if_neg he, if_neg (by omega), if_neg hw0, if_pos ⟨by assumption, by rw [← htm]; simpa using h113⟩]
      exact CEnt.refl _
    refine code_skip (jtn ?_)
    refine jcs ?_
    have hset : ¬(set = true ∧ Op.bytesLess (x.b.take (x.b.length - (nextM x.b).rest.length)) x.last = true) := by
      rintro ⟨h1, h2⟩
      rw [← htm] at h2
      (rw [h2] at h113; exact absurd h113 (by decide))
    refine jcr ?_
    refine jq jrm ?_
    refine jq jrm ?_
    refine jq jrc ?_
    refine seq_nil ?_
    refine jcc (fun h116 => ?_) fun h116 => ?_
    rotate_left
    · refine code_skip (jtn ?_)
      refine jcr ?_
      refine jq jrm ?_
      refine jq jrm ?_
      refine jq jrst ?_
      refine jq jrm ?_
      refine seq_nil ?_
      refine jcg ?_
      refine jq jrm ?_
      refine jq jrm ?_
      refine jq jrsf ?_
      refine jq jrm ?_
      refine seq_nil ?_
      refine jbn (jtn ?_)
      refine jlend (⟨x.f - 1, (nextM x.b).rest, x.b.take (x.b.length - (nextM x.b).rest.length), max x.dp ((wholeM lv (nextM x.b).tag (nextM x.b).body).1 + 1)⟩) ?_ ?_ (h5 := ?_)
      · exact ⟨by dsimp only; omega, by dsimp only; omega, by dsimp only; omega, by dsimp only; omega, by
          dsimp only
          rw [← hw, loopW_step _ _ _ _ _ _ _ (by omega) hxf, if_neg he, if_neg (by omega), if_neg hw0, if_neg hset]⟩
      · dsimp only
        omega
      · exact .cons (CEnt.bs hcut.2.1.symm) (.cons (CEnt.int (by dsimp only; omega)) (.cons (CEnt.bs (by rw [htm])) .nil))
    refine jcg ?_
    refine jq jrm ?_
    refine jq jrm ?_
    refine seq_nil ?_
    refine jtn ?_
    refine jcr ?_
    refine jq jrm ?_
    refine jq jrm ?_
    refine jq jrst ?_
    refine jq jrm ?_
    refine seq_nil ?_
    refine jcg ?_
    refine jq jrm ?_
    refine jq jrm ?_
    refine jq jrsf ?_
    refine jq jrm ?_
    refine seq_nil ?_
    refine jbn (jtn ?_)
    refine jlend (⟨x.f - 1, (nextM x.b).rest, x.b.take (x.b.length - (nextM x.b).rest.length), max x.dp ((wholeM lv (nextM x.b).tag (nextM x.b).body).1 + 1)⟩) ?_ ?_ (h5 := ?_)
    · exact ⟨by dsimp only; omega, by dsimp only; omega, by dsimp only; omega, by dsimp only; omega, by
        dsimp only
        rw [← hw, loopW_step _ _ _ _ _ _ _ (by omega) hxf, if_neg he, if_neg (by omega), if_neg hw0, if_neg hset]⟩
    · dsimp only
      omega
    · exact .cons (CEnt.bs hcut.2.1.symm) (.cons (CEnt.int (by dsimp only; omega)) (.cons (CEnt.bs (by rw [htm])) .nil))
theorem allW_one {b : List UInt8} (h : (nextM b).e = 0) (hr : (nextM b).rest = []) : ((allW 16 false b).1 - 1, (allW 16 false b).2) = wholeM 16 (nextM b).tag (nextM b).body := by
  have hb : b ≠ [] := by rintro rfl; exact absurd h (by decide)
  have hl : 0 < b.length := List.length_pos_iff.2 hb
  unfold allW
  rw [loopW_step _ _ _ _ _ _ _ hl (Nat.le_refl _), if_neg (by omega), if_neg (by decide)]
  by_cases hw : (wholeM 16 (nextM b).tag (nextM b).body).2 = 0
  · have := wholeM_pos hw
    rw [if_neg (by omega), if_neg (by simp), hr, loopW_nil]
    refine Prod.ext ?_ hw.symm
    show max 1 _ - 1 = _
    omega
  · rw [if_pos hw]
    refine Prod.ext ?_ rfl
    show 0 - 1 = _
    have : (wholeM 16 (nextM b).tag (nextM b).body).1 = 0 := by
      unfold wholeM at hw ⊢
      split
      · rename_i h1; rw [if_pos h1] at hw; exact absurd rfl hw
      · rename_i h1; rw [if_neg h1] at hw; exact loopW_err hw
    omega
theorem rcheck_ac {gs : List Nat} (b : List UInt8) (hb : b.length ≤ 1000000) : ACp gs Tryz.prog 50 [bsC b] (.tup 2 (fl [.c (.int .i64 (depthM b).1), .c (.int .i64 (depthM b).2)])) := by
  have hnb := nextM_bd b
  refine ac_of 29 Tryz.func50 rfl rfl rfl (fun al w0 F0 St0 => ?_)
  refine jcr ?_
  refine jq jrm ?_
  refine jq jrm ?_
  refine seq_nil ?_
  refine jcs ?_
  refine jcr ?_
  refine jq jrm ?_
  refine jq jrl ?_
  refine jq jrc ?_
  refine seq_nil ?_
  refine jcc (fun h127 => ?_) fun h127 => ?_
  · refine jcr ?_
    refine jq jrm ?_
    refine jq jrm ?_
    refine seq_nil ?_
    refine code_ret (jtr (jrt (hv := ?_)))
    unfold depthM
    rw [if_pos (by omega)]
    exact CEnt.refl _
  refine code_skip (jtn ?_)
  refine jcr ?_
  refine jq jrm ?_
  refine jqe (jecP (rnext_ac b (by omega)) ?_)
  refine jq jrm ?_
  refine jq jrx ?_
  refine jq jrx ?_
  refine jq jrx ?_
  refine jq jrx ?_
  refine jq jrm ?_
  refine jq jrm ?_
  refine jq jrm ?_
  refine jq jrm ?_
  refine seq_nil ?_
  refine jcs ?_
  refine jcr ?_
  refine jq jrm ?_
  refine jq jrc ?_
  refine seq_nil ?_
  refine jcc (fun h131 => ?_) fun h131 => ?_
  · refine jcr ?_
    refine jq jrm ?_
    refine jq jrm ?_
    refine jq jrm ?_
    refine seq_nil ?_
    refine code_ret (jtr (jrt (hv := ?_)))
    unfold depthM
    rw [if_neg (by omega), if_pos (by omega)]
    exact CEnt.refl _
  refine code_skip (jtn ?_)
  refine jcs ?_
  refine jcr ?_
  refine jq jrm ?_
  refine jq jrm ?_
  refine jq jrl ?_
  refine jq jrc ?_
  refine seq_nil ?_
  refine jcc (fun h134 => ?_) fun h134 => ?_
  · refine jcr ?_
    refine jq jrm ?_
    refine jq jrm ?_
    refine seq_nil ?_
    refine code_ret (jtr (jrt (hv := ?_)))
    have htm := take_toM (b := b) (by omega)
    unfold depthM
    rw [if_neg (by omega), if_neg (by omega), if_pos (by omega)]
    exact CEnt.refl _
  refine code_skip (jtn ?_)
  refine jcr ?_
  refine jq jrm ?_
  refine jqe (jecP (rwhole_ac 16 false b (by omega) hb) ?_)
  refine jq jrx ?_
  refine jq jrx ?_
  refine jq jrm ?_
  refine jq jrm ?_
  refine seq_nil ?_
  refine code_ret (jrt (hv := ?_))
  have htm := take_toM (b := b) (by omega)
  have hr : (nextM b).rest = [] := List.eq_nil_of_length_eq_zero (by omega)
  have := allW_one (b := b) (by omega) hr
  have hd : depthM b = ((allW 16 false b).1 - 1, (allW 16 false b).2) := by
    unfold depthM
    rw [if_neg (by omega), if_neg (by omega), if_neg (by omega), this]
  rw [hd]
  exact CEnt.refl _
end Am
end Go.Proofs.YtgnjjenalebiaaaGreatDoor

/- slices.Compare at bytes: what it answers, and that the world is as it was. -/
namespace Go.Proofs.YtgnjjenalebiaaaGreatDoor
set_option linter.unusedVariables false
open Go.RowKit
namespace Am
set_option maxRecDepth 100000

theorem isNaN8_run (x : Int) (w : World) : Calls Tryz.prog 176 #[.int .u8 x] w fun e w' => e = .returned (.bool false) ∧ w' = w := by
  go_enter Tryz.func176, Tryz.ntmps176
  go_wp2
  go_ret
  exact ⟨rfl, rfl⟩
set_option maxHeartbeats 1000000 in
theorem cmp8_run (a b : UInt8) (w : World) : Calls Tryz.prog 164 #[.int .u8 (a.toNat : Nat), .int .u8 (b.toNat : Nat)] w fun e w' => e = .returned (.int .i64 (cmp8 a b)) ∧ w' = w := by
  rcases Nat.lt_trichotomy a.toNat b.toNat with h | h | h
  · have HF : Hid (cmp8 a b = -1) := by unfold cmp8; rw [if_pos h]; rfl
    have h1 : decide (((a.toNat : Nat) : Int) < (b.toNat : Nat)) = true := by simp; omega
    go_enter Tryz.func164, Tryz.ntmps164
    go_wp2_with (go_at_call 176; refine (isNaN8_run _ _).mono ?_; rintro e w' ⟨rfl, rfl⟩)
    go_ret
    exact ⟨by rw [HF.out]; rfl, rfl⟩
  · have HF : Hid (cmp8 a b = 0) := by unfold cmp8; rw [if_neg (by omega), if_neg (by omega)]; rfl
    have h1 : decide (((a.toNat : Nat) : Int) < (b.toNat : Nat)) = false := by simp; omega
    have h2 : decide (((b.toNat : Nat) : Int) < (a.toNat : Nat)) = false := by simp; omega
    go_enter Tryz.func164, Tryz.ntmps164
    go_wp2_with (go_at_call 176; refine (isNaN8_run _ _).mono ?_; rintro e w' ⟨rfl, rfl⟩)
    go_ret
    exact ⟨by rw [HF.out]; rfl, rfl⟩
  · have HF : Hid (cmp8 a b = 1) := by unfold cmp8; rw [if_neg (by omega), if_pos h]; rfl
    have h1 : decide (((a.toNat : Nat) : Int) < (b.toNat : Nat)) = false := by simp; omega
    have h2 : decide (((b.toNat : Nat) : Int) < (a.toNat : Nat)) = true := by simp; omega
    go_enter Tryz.func164, Tryz.ntmps164
    go_wp2_with (go_at_call 176; refine (isNaN8_run _ _).mono ?_; rintro e w' ⟨rfl, rfl⟩)
    go_ret
    exact ⟨by rw [HF.out]; rfl, rfl⟩
theorem bs_cell {w : World} {ao : Option Addr} {n cap : Nat} {l : List UInt8} (h : Bs w (.slice ao n cap) l) {k : Nat} (hk : k < l.length) : ∃ b o, ao = some ⟨b, o, none⟩ ∧ w.cell? ⟨b, o + k, none⟩ = some (.int .u8 (l.getD k 0).toNat) := by
  obtain ⟨b, o, cap', e, h1, h2, h3⟩ := h.cons (by omega)
  injection e with e1 e2 e3
  exact ⟨b, o, e1, h3 k hk⟩
set_option maxHeartbeats 2000000 in
theorem compare8_run {w : World} {v1 v2 : Value} {l r : List UInt8} (h1 : Bs w v1 l) (h2 : Bs w v2 r) : Calls Tryz.prog 148 #[v1, v2] w fun e w' => e = .returned (.int .i64 (cmpL l r)) ∧ w' = w := by
  obtain ⟨ao1, cap1, rfl, a1, a2, -, -⟩ := id h1
  obtain ⟨ao2, cap2, rfl, b1, b2, -, -⟩ := id h2
  have H1 := Lib.hid h1
  have H2 := Lib.hid h2
  clear h1 h2
  have L1 : (l.length : Int) ≤ 9223372036854775807 := by omega
  have A1 := Lib.hid a1; have A2 := Lib.hid a2; have B1 := Lib.hid b1; have B2 := Lib.hid b2
  clear a1 a2 b1 b2
  go_enter Tryz.func148, Tryz.ntmps148
  go_wp2
  go_loopw [11] (fun i wr => ∃ k : Nat, Hid (k ≤ l.length ∧ k ≤ r.length ∧ cmpL (l.drop k) (r.drop k) = cmpL l r) ∧ i = .int .i64 k ∧ wr = w) (fun i _ => l.length - (intOf i).toNat)
  case atStart => exact ⟨0, ⟨Nat.zero_le _, Nat.zero_le _, rfl⟩, rfl, rfl⟩
  case round =>
    obtain ⟨k, HK, rfl, rfl⟩ := hrel
    by_cases hk : k < l.length
    · have q1 : decide ((k : Int) < (l.length : Int)) = true := by simp; omega
      obtain ⟨p1, o1, rfl, c1⟩ := bs_cell H1.out hk
      by_cases hr : k < r.length
      · have q2 : decide ((r.length : Int) ≤ (k : Int)) = false := by simp; omega
        obtain ⟨p2, o2, rfl, c2⟩ := bs_cell H2.out hr
        have HS := Lib.hid (cmpL_drop (l := l) (r := r) (i := k) hk hr)
        have i1 : (0 : Int) ≤ (k : Int) := by omega
        have i2 : (k : Int) < (l.length : Int) := by omega
        have i3 : (k : Int) < (r.length : Int) := by omega
        generalize l.getD k 0 = x at c1 HS
        generalize r.getD k 0 = y at c2 HS
        by_cases hz : cmp8 x y = 0
        · have HZ := Lib.hid hz
          have q3 : (cmp8 x y != 0) = false := by rw [hz]; rfl
          clear hz
          go_wp2_with (go_at_call 164; refine (cmp8_run _ _ _).mono ?_; rintro e w' ⟨rfl, rfl⟩)
          case roundEnd => exact ⟨⟨k + 1, ⟨by omega, by omega, by rw [← HK.out.2.2, HS.out, if_neg (fun e => e HZ.out)]⟩, by simp, trivial⟩, by simp [intOf]; omega⟩
        · have HF : Hid (cmpL l r = cmp8 x y) := by show _ = _; rw [← HK.out.2.2, HS.out, if_pos hz]
          have q3 : (cmp8 x y != 0) = true := by simp [hz]
          clear hz
          go_wp2_with (go_at_call 164; refine (cmp8_run _ _ _).mono ?_; rintro e w' ⟨rfl, rfl⟩)
          all_goals (go_ret; exact ⟨by rw [HF.out]; rfl, rfl⟩)
      · have HF : Hid (cmpL l r = 1) := by
          show _ = _
          rw [← HK.out.2.2, List.drop_eq_nil_of_le (by omega : r.length ≤ k), List.drop_eq_getElem_cons hk]; rfl
        have q2 : decide ((r.length : Int) ≤ (k : Int)) = true := by simp; omega
        have i1 : (0 : Int) ≤ (k : Int) := by omega
        have i2 : (k : Int) < (l.length : Int) := by omega
        go_wp2
        all_goals (go_ret; exact ⟨by rw [HF.out]; rfl, rfl⟩)
    · have q1 : decide ((k : Int) < (l.length : Int)) = false := by simp; omega
      have hkl : k = l.length := by have := HK.out.1; omega
      by_cases hr : l.length < r.length
      · have HF : Hid (cmpL l r = -1) := by
          show _ = _
          rw [← HK.out.2.2, hkl, List.drop_length, List.drop_eq_getElem_cons hr]; rfl
        have q2 : decide ((l.length : Int) < (r.length : Int)) = true := by simp; omega
        go_wp2
        all_goals (go_ret; exact ⟨by rw [HF.out]; rfl, rfl⟩)
      · have HF : Hid (cmpL l r = 0) := by
          show _ = _
          have e : r.length = l.length := by have := HK.out.2.1; omega
          rw [← HK.out.2.2, hkl, List.drop_length, ← e, List.drop_length]; rfl
        have q2 : decide ((l.length : Int) < (r.length : Int)) = false := by simp; omega
        go_wp2
        all_goals (go_ret; exact ⟨by rw [HF.out]; rfl, rfl⟩)
end Am
end Go.Proofs.YtgnjjenalebiaaaGreatDoor

/- slices.SortFunc with slices.Compare, at a call's own row of bytes. -/
namespace Go.Proofs.YtgnjjenalebiaaaGreatDoor
set_option linter.unusedVariables false
open Go.RowKit
namespace Am
set_option maxRecDepth 100000
open Go.Sort (SWO PermIn SortedIn putCells putRow mapBlock ahead grow onCells)

def lbF (ls : List (List UInt8)) (j : Nat) : CV := bsC (ls.getD j [])
section
variable {α : Type} [Inhabited α] {enc : α → Value} {w : World} {g n : Nat} {d : Array α} {os : Array Obj}
theorem sortW_other {b : Nat} (hb : b < w.heap.size) (hn : b ≠ g) : (sortWorld enc w g 0 n d os).heap[b]? = w.heap[b]? := by
  show ((w.heap.modify g (onCells (putCells enc 0 d))) ++ os)[b]? = _
  rw [Array.getElem?_append_left (by simpa using hb), Array.getElem?_modify, if_neg (fun e => hn e.symm)]
theorem sortW_at {cur : Array Value} {t : TypeId} {z : Nat × Nat} (h : w.heap[g]? = some (.cells cur t z)) : (sortWorld enc w g 0 n d os).heap[g]? = some (.cells (putCells enc 0 d cur) t z) := by
  have hb : g < w.heap.size := (Array.getElem?_eq_some_iff.1 h).1
  show ((w.heap.modify g (onCells (putCells enc 0 d))) ++ os)[g]? = _
  rw [Array.getElem?_append_left (by simpa using hb), Array.getElem?_modify, if_pos rfl, h]
  rfl
theorem sortW_size : w.heap.size ≤ (sortWorld enc w g 0 n d os).heap.size := by
  show _ ≤ ((w.heap.modify g (onCells (putCells enc 0 d))) ++ os).size
  rw [Array.size_append, Array.size_modify]
  omega
end
theorem row_get {cs : Array Value} {m : Nat} {enc : Fin (m + 1) → Value} {d : Array (Fin (m + 1))} {i : Nat} (hi : i < d.size) (hc : d.size ≤ cs.size) : (putCells enc 0 d cs).getD i undef = enc d[i]! := by
  have h2 : i < (putCells enc 0 d cs).size := by simp [putCells]; omega
  rw [Array.getD_eq_getD_getElem?, Array.getElem?_eq_getElem h2]
  simp [putCells, hi]
theorem sort8_of {gs : List Nat} {P : Program} {fs fc : FuncId}
    (hnone : ∀ (p : Option Addr) (cap : Nat) (fv : Value) (w : World), Calls P fs #[.slice p 0 cap, fv] w fun e w' => e = .returned (.tuple #[]) ∧ w' = w)
    (hsort : ∀ (m : Nat) (enc : Fin (m + 1) → Value) (h1 : OneCell enc) (cf : Fin (m + 1) → Fin (m + 1) → Int) (hO : SWO (ltOf cf)) (blk cap : Nat) (d : Array (Fin (m + 1))) (w : World), CmpLays1 P fc #[] enc cf blk 0 d.size w → Go.Sort.Holds enc w blk 0 d → blk < w.heap.size → d.size < 4611686018427387904 →
      Calls P fs #[.slice (some ⟨blk, 0, none⟩) d.size cap, .func (.func fc) #[] #[]] w fun e w' => e = .returned (.tuple #[]) ∧ ∃ d' n os, PermIn 0 d.size d d' ∧ SortedIn (ltOf cf) 0 d.size d' ∧ w' = sortWorld enc w blk 0 n d' os)
    (hcmp : ∀ (w : World) (v1 v2 : Value) (l r : List UInt8), Bs w v1 l → Bs w v2 r → Calls P fc #[v1, v2] w fun e w' => e = .returned (.int .i64 (cmpL l r)) ∧ w' = w)
    (g : Option Nat) (ls : List (List UInt8)) (hl : ls.length ≤ 1000000000) : AC gs P fs [(g, .blk ls.length (lbF ls))] [.os 0 g 0 ls.length 1, .c (.func (.func fc) #[] #[])] (fun r H' => r = .c (.tuple #[]) ∧ H' = [(g, .blk ls.length (lbF (sortL ls)))]) := by
  intro al w St F0 vals he hs hv
  obtain ⟨fp, hp⟩ := he.hp
  have v0 := hv 0
  have v1 : vals.getD 1 undef = .func (.func fc) #[] #[] := hv 1
  have hnil : ls.length = 0 → sortL ls = ls := fun h => by
    have : ls = [] := List.eq_nil_of_length_eq_zero h
    subst this; simp [sortL]
  have same : ls.length = 0 → HRel al St w w.heap.size F0 [(g, .blk ls.length (lbF (sortL ls)))] := fun h => ⟨fp, by rw [hnil h]; exact hp⟩
  rw [vals2 hs, v1]
  by_cases hz : ls.length = 0
  · have hx : ∃ p cap, vals.getD 0 undef = .slice p 0 cap := by
      cases g with
      | none => exact ⟨none, 0, v0.2⟩
      | some b => obtain ⟨cap, h1, _⟩ := v0; exact ⟨_, cap, by rw [h1, hz]⟩
    obtain ⟨p, cap, hx⟩ := hx
    rw [hx]
    refine (hnone p cap _ w).mono ?_
    rintro e w' ⟨rfl, rfl⟩
    exact ⟨_, _, _, St, rfl, ⟨rfl, rfl⟩, rfl, Under.refl _ _, fun _ h => h, fun _ h => .inl h, he.s3, same hz⟩
  · cases g with
    | none => exact absurd v0.1 hz
    | some b =>
      obtain ⟨cap, h1, h2, h3, cur0, t0, z0, h4, h5⟩ := v0
      obtain ⟨hF, cur, t, k1, k2, k3⟩ := hp.rep 0 (some b) _ rfl
      have hF0 : F0 b := by
        rcases (hp.own 0 b ((hF b).2 rfl)).2.2 with h | h
        · have := (hp.own 0 b ((hF b).2 rfl)).1; omega
        · exact h
      have hSt : ∀ x, St x → x ≠ b := fun x hx e => (hp.own 0 b ((hF b).2 rfl)).2.1 (e ▸ hx)
      have hb : b < w.heap.size := (Array.getElem?_eq_some_iff.1 k1).1
      obtain ⟨m, hm⟩ : ∃ m, ls.length = m + 1 := ⟨ls.length - 1, by omega⟩
      let enc : Fin (m + 1) → Value := fun i => cur.getD i.val undef
      let d : Array (Fin (m + 1)) := Array.ofFn id
      have hd : d.size = ls.length := by simp [d, hm]
      have hrep : ∀ i : Fin (m + 1), RepC al St w (bsC (ls.getD i.val [])) (enc i) := fun i => k3 i.val (by omega)
      have hbs : ∀ (w' : World), KeepS St w w' → ∀ i : Fin (m + 1), Bs w' (enc i) (ls.getD i.val []) := fun w' hk i => bs_of_rep (rep_bs_keep (hrep i) hk)
      have hone : OneCell enc := fun i => by
        obtain ⟨ao, cap, e, _⟩ := hbs w (KeepS.refl _ _) i
        rw [e]; rfl
      have hkeep : ∀ (n : Nat) (d' : Array (Fin (m + 1))) (os : Array Obj), KeepS St w (sortWorld enc w b 0 n d' os) := fun n d' os x hx => sortW_other (he.s3 x hx) (hSt x hx)
      have hO := cmpL_swo (fun i : Fin (m + 1) => ls.getD i.val [])
      have hH : Go.Sort.Holds enc w b 0 d := fun j hj => by
        have hj2 : j < cur.size := by omega
        have e1 : d[j]! = ⟨j, by omega⟩ := by simp [d, show j < m + 1 by omega]
        refine ⟨?_, ?_⟩
        · simp only [World.cell?, k1, Nat.zero_add]
          rw [if_neg (by simp), e1]
          simp [enc, hj2]
        · simp [World.frozen?, k1]
      have key := hsort m enc hone (fun x y => cmpL (ls.getD x.val []) (ls.getD y.val [])) hO b cap d w (fun n os dk hdk x y => (hcmp _ _ _ _ _ (hbs _ (hkeep n dk os) x) (hbs _ (hkeep n dk os) y)).mono (by rintro e w' ⟨rfl, rfl⟩; exact ⟨rfl, 0, #[], by simp [World.drewN]⟩)) hH hb (by omega)
      rw [h1, ← hd]
      refine key.mono ?_
      rintro e w' ⟨rfl, d', n, os, hP, hS, rfl⟩
      have hd' : d'.size = ls.length := hP.1.trans hd
      have hms : (d'.toList.map fun i => ls.getD i.val []) = sortL ls := by
        refine sortL_of ?_ ?_
        · have h6 := hP.2.2
          have e1 : (d'.extract 0 d.size).toList = d'.toList := by rw [← hP.1]; simp
          have e2 : (d.extract 0 d.size).toList = d.toList := by simp
          rw [e1, e2] at h6
          refine (h6.map _).trans ?_
          have e3 : d.toList.map (fun i : Fin (m + 1) => ls.getD i.val []) = ls := by
            apply List.ext_getElem
            · simp [d, hm]
            · intro i h7 h8
              rw [List.getElem_map, Array.getElem_toList]
              have e4 : d[i]'(by rw [hd]; exact h8) = ⟨i, by omega⟩ := by simp only [d, Array.getElem_ofFn]; rfl
              rw [e4]; simp only [List.getD, List.getElem?_eq_getElem h8, Option.getD_some]
          rw [e3]
        · rw [List.pairwise_map, List.pairwise_iff_getElem]
          intro i j hi hj hij
          have h7 := hS i j (Nat.zero_le _) hij (by rw [← hP.1]; simpa using hj)
          have hi2 : i < d'.size := by simpa using hi
          have hj2 : j < d'.size := by simpa using hj
          rw [getElem!_pos d' i hi2, getElem!_pos d' j hj2] at h7
          unfold ltOf at h7
          simp only [decide_eq_false_iff_not, Int.not_lt] at h7
          have h8 := cmpL_swap (ls.getD (d'[j]).val []) (ls.getD (d'[i]).val [])
          unfold leL
          rw [decide_eq_true_eq]
          simp only [Array.getElem_toList]
          omega
      have hw := sortW_at (enc := enc) (n := n) (d := d') (os := os) k1
      have hsz := sortW_size (enc := enc) (w := w) (g := b) (n := n) (d := d') (os := os)
      have hput : (putCells enc 0 d' cur).size = cur.size := by simp [putCells]
      refine ⟨_, _, _, St, rfl, ⟨rfl, rfl⟩, rfl, ⟨rfl, rfl, rfl, hsz, fun x hx hn => sortW_other hx (fun e => hn (e ▸ hF0)), fun x cx tx zx hx => ?_⟩, fun _ h => h, fun _ h => .inl h, fun x hx => Nat.lt_of_lt_of_le (he.s3 x hx) hsz, fp, fun i g' r hi => ?_, hp.dis, fun i x hx => ?_, hp.out⟩
      · by_cases e : x = b
        · subst e
          rw [k1] at hx
          cases hx
          exact ⟨_, _, hw, hput⟩
        · exact ⟨cx, zx, (sortW_other (Array.getElem?_eq_some_iff.1 hx).1 e).trans hx, rfl⟩
      · cases i with
        | zero =>
          cases hi
          refine ⟨hF, _, t, hw, by rw [hput]; omega, fun i hi => ?_⟩
          have hi' : i < d'.size := by omega
          rw [row_get hi' (by omega)]
          have e : lbF (sortL ls) i = bsC (ls.getD (d'[i]!).val []) := by
            unfold lbF
            rw [← hms]
            simp [List.getD, hi']
          rw [e]
          exact rep_bs_keep (hrep _) (hkeep n d' os)
        | succ i => simp at hi
      · exact ⟨Nat.lt_of_lt_of_le (hp.own i x hx).1 hsz, (hp.own i x hx).2⟩
end Am
end Go.Proofs.YtgnjjenalebiaaaGreatDoor

/- Chapter 7: rows of bytes: cloned, sorted, told to be sorted, the same. -/
namespace Go.Proofs.YtgnjjenalebiaaaGreatDoor
set_option linter.unusedVariables false
namespace Am
open Go.RowKit
set_option maxRecDepth 100000

theorem rowC_lb : RowC 1 lbF := fun l l2 j hj => by
  simp only [lbF, List.getD_eq_getElem?_getD]
  split
  · rw [List.getElem?_append_left (by omega)]
  · rw [List.getElem?_append_right (by omega), Nat.mul_one]
theorem lb_thaw {ls : List (List UInt8)} : ∀ a b, a < ls.length → b < 1 → CEnt (lbF ls (0 + (a * 1 + b))) (bsC (ls.getD a [])) := fun a b ha hb => CEnt.of_eq (by rw [show 0 + (a * 1 + b) = a by omega]; rfl)
theorem cloneL_ac {gs : List Nat} (l : List (List UInt8)) (hl : l.length ≤ 1000000) : AC gs Tryz.prog 154 [] [lbC l] (OwnQ l.length 1 l.length (lbF l)) := by
  refine ac_of 8 Tryz.func154 rfl rfl rfl (fun al w0 F0 St0 => ?_)
  refine jcr ?_
  refine jq jrm ?_
  refine seq_nil ?_
  refine jcs ?_
  refine jcr ?_
  refine jq jrm ?_
  refine seq_eqNil (wanted_none rfl) rfl rfl rfl Tryz.underlying56 rfl rfl (fun h357 => ?_) ?_
  · refine seq_nil ?_
    refine jcT ?_
    refine jcr ?_
    refine jq jrm ?_
    refine seq_nil ?_
    refine code_ent (own_nil 2 1 (lbF l) rfl) ?_
    refine code_ret (jtr ?_)
    exact end_O 0 (.inl rfl) (res_1 rfl (arv_tmp rfl)) rfl (by omega) (by omega) (fun _ => by omega) (fun j hj => by omega)
  · refine seq_nil ?_
    refine jcF ?_
    refine code_skip (jtn ?_)
    refine jcr ?_
    refine jqe (jebl 0 1 zr26 fun p1 => ?_)
    refine jq jrm ?_
    refine jqm (m_appendC (l := []) ( rowC_lb) rfl rfl rfl rfl (Nat.le_of_eq (Nat.zero_mul _)) (fun j hj => absurd hj (by simp)) (src_rs rfl) rfl (fun j hj => by (simp only [Nat.div_one]; exact CEnt.refl _)) Tryz.underlying56 nu56 sz26 zr26 by26 rfl (by (simp; omega)) (by (simp; omega)) (fun j hj => rfl) rfl rfl rfl (fun p2 => ?_))
    refine jq jrm ?_
    refine seq_nil ?_
    refine code_ret ?_
    exact end_O 0 (.inl rfl) (res_1 rfl (arv_tmp rfl)) rfl (by simp) (by simp) (fun _ => by simp) (fun j hj => CEnt.refl _)
end Am
end Go.Proofs.YtgnjjenalebiaaaGreatDoor

/- Chapter 8: the writer as one thing. -/
namespace Go.Proofs.YtgnjjenalebiaaaGreatDoor
set_option linter.unusedVariables false
namespace Am
open Go.RowKit
set_option maxRecDepth 100000

/-- an element that is under way: its tag, what was written into it; where its row stands -/
abbrev FrG := (Int × List (List UInt8)) × Option Nat
def frD : FrG := ((0, []), none)
def frF (x : FrG) : Nat → CV := fl [.c (.int .i64 x.1.1), .os 0 x.2 0 x.1.2.length 1]
def kidE (x : FrG) : Option Nat × Res := (x.2, .blk x.1.2.length (lbF x.1.2))
abbrev WZ8 (fr : List (Int × List (List UInt8))) := { z : Nat × Option Nat × Option Nat × List FrG // z.2.2.2.map Prod.fst = fr }
def wrB (s : W8) (io jd : Nat) (go gd : Option Nat) : Nat → CV := fl [.os io go 0 s.fr.length 2, .os jd gd 0 s.d.length 1, .err s.k]
def wrE (s : W8) (z : WZ8 s.fr) : List (Option Nat × Res) := [(some z.1.1, .blk 3 (wrB s 1 2 z.1.2.1 z.1.2.2.1)), (z.1.2.1, .blk (s.fr.length * 2) (rowF 2 frF frD z.1.2.2.2.reverse)), (z.1.2.2.1, .blk s.d.length (byF s.d)), bagE (z.1.2.2.2.map kidE)]
def wrO (n : Nat) (s : W8) : Option Nat × Res := objE n (fun z : WZ8 s.fr => z.1.1) (wrE s)
section
variable {P : Program} {G : Gh} {c : Code} {R : Exit → AS → Prop} {n : Nat} {s : W8} {env : List (Nat × CV)} {b0 : Nat → CV} {H : List (Option Nat × Res)}
theorem code_openW (i : Nat) (hi : H[i]? = some (wrO n s)) (h : ∀ go gd (zs : List FrG), zs.map Prod.fst = s.fr → ACode P G c ⟨env, b0, H.set i (some n, .blk 3 (wrB s H.length (H.length + 1) go gd)) ++ [(go, .blk (s.fr.length * 2) (rowF 2 frF frD zs.reverse)), (gd, .blk s.d.length (byF s.d)), bagE (zs.map kidE)]⟩ R) : ACode P G c ⟨env, b0, H⟩ R := by
  have hlt := (List.getElem?_eq_some_iff.1 hi).1
  refine code_unpack i hi fun z hz => ?_
  obtain ⟨⟨n', go, gd, zs⟩, hzs⟩ := z
  obtain rfl : n' = n := hz
  refine code_ent (weakH i 3 (wrB s H.length (H.length + 1) go gd) (n := 3) (g := some n') (f := wrB s 1 2 go gd) ?_ (Nat.le_refl _) fun j hj => ?_) ?_
  · show (H.set i _ ++ _)[i]? = _
    rw [List.getElem?_append_left (by simpa using hlt)]
    simp [hlt]
  · rcases j with _ | _ | _ | j
    · exact CEnt.osI rfl
    · exact CEnt.osI rfl
    · exact CEnt.refl _
    · omega
  · have := h go gd zs hzs
    rw [← List.set_set (a := (some n', Res.blk 3 (wrB s 1 2 go gd))), ← List.set_append_left _ _ (by simpa using hlt)] at this
    exact this
theorem closeWh (n : Nat) (s : W8) (zs : List FrG) (i jo jd jb : Nat) (hzs : zs.map Prod.fst = s.fr) {go gd : Option Nat} {No Nd : Nat} {f Fo Fd : Nat → CV} (hi : H[i]? = some (some n, .blk 3 f)) (ho : H[jo]? = some (go, .blk No Fo)) (hd : H[jd]? = some (gd, .blk Nd Fd)) (hb : H[jb]? = some (bagE (zs.map kidE))) (hij : [i, jo, jd, jb].Nodup)
    (h0 : CEnt (f 0) (.os 1 go 0 s.fr.length 2)) (h1 : CEnt (f 1) (.os 1 gd 0 s.d.length 1)) (h2 : CEnt (f 2) (.err s.k)) (hNo : s.fr.length * 2 ≤ No) (hFo : ∀ a, a < s.fr.length * 2 → CEnt (Fo a) (rowF 2 frF frD zs.reverse a)) (hNd : s.d.length ≤ Nd) (hFd : ∀ a, a < s.d.length → CEnt (Fd a) (byF s.d a)) :
    ∀ {al : List Addr} {St : Nat → Prop} {w : World} {base : Nat} {F0 : Nat → Prop}, HRel al St w base F0 H → HRel al St w base F0 ((((H.set i (wrO n s)).set jo (none, .dead)).set jd (none, .dead)).set jb (none, .dead)) := by
  intro al St w base F0 h
  simp only [List.nodup_cons, List.mem_cons, List.not_mem_nil, or_false, not_or, not_false_iff, List.nodup_nil, and_true] at hij
  obtain ⟨⟨e1, e2, e3⟩, ⟨e4, e5⟩, e6⟩ := hij
  have hil := (List.getElem?_eq_some_iff.1 hi).1
  have hol := (List.getElem?_eq_some_iff.1 ho).1
  have hdl := (List.getElem?_eq_some_iff.1 hd).1
  have hbl := (List.getElem?_eq_some_iff.1 hb).1
  have k1 := h.weak (F := wrB s 1 2 go gd) hi (Nat.le_refl _) fun a ha => by
    rcases a with _ | _ | _ | a
    · exact h0.trans (CEnt.osI rfl)
    · exact h1.trans (CEnt.osI rfl)
    · exact h2
    · omega
  have k2 := k1.weak (i := jo) (F := rowF 2 frF frD zs.reverse) (by rw [List.getElem?_set_ne e1]; exact ho) hNo hFo
  have k3 := k2.weak (i := jd) (F := byF s.d) (by rw [List.getElem?_set_ne e4, List.getElem?_set_ne e2]; exact hd) hNd hFd
  have k4 := k3.closeN (gd := fun z : WZ8 s.fr => z.1.1) (E := wrE s) ⟨(n, go, gd, zs), hzs⟩ i [jo, jd, jb] (by simp [e1, e2, e3, e4, e5, e6]) (by simp [hil, hol, hdl, hbl]) (by
    have g1 : ∀ {x}, ((H.set i x).set jo (go, Res.blk (s.fr.length * 2) (rowF 2 frF frD zs.reverse))).set jd (gd, Res.blk s.d.length (byF s.d)) = ((H.set i x).set jo (go, Res.blk (s.fr.length * 2) (rowF 2 frF frD zs.reverse))).set jd (gd, Res.blk s.d.length (byF s.d)) := rfl
    simp only [pickL, List.map_cons, List.map_nil, List.getD_eq_getElem?_getD]
    rw [List.getElem?_set_ne (Ne.symm e2), List.getElem?_set_ne (Ne.symm e1), List.getElem?_set_ne (Ne.symm e4), List.getElem?_set_ne e6, List.getElem?_set_ne e5, List.getElem?_set_ne e3, hb]
    simp [hil, hol, hdl, wrE])
  have e : killL ((((H.set i (some n, Res.blk 3 (wrB s 1 2 go gd))).set jo (go, Res.blk (s.fr.length * 2) (rowF 2 frF frD zs.reverse))).set jd (gd, Res.blk s.d.length (byF s.d))).set i (objE n (fun z : WZ8 s.fr => z.1.1) (wrE s))) [jo, jd, jb] = (((H.set i (wrO n s)).set jo (none, .dead)).set jd (none, .dead)).set jb (none, .dead) := by
    show ((((((H.set i _).set jo _).set jd _).set i _).set jo _).set jd _).set jb _ = _
    rw [List.set_comm _ _ (Ne.symm e2), List.set_comm _ _ (Ne.symm e1), List.set_set, List.set_comm _ _ (Ne.symm e4), List.set_set, List.set_set]
    rfl
  rw [← e]
  exact k4
theorem closeW (n : Nat) (s : W8) (zs : List FrG) (i jo jd jb : Nat) (hzs : zs.map Prod.fst = s.fr) {go gd : Option Nat} {No Nd : Nat} {f Fo Fd : Nat → CV} (hi : H[i]? = some (some n, .blk 3 f)) (ho : H[jo]? = some (go, .blk No Fo)) (hd : H[jd]? = some (gd, .blk Nd Fd)) (hb : H[jb]? = some (bagE (zs.map kidE))) (hij : [i, jo, jd, jb].Nodup)
    (h0 : CEnt (f 0) (.os 1 go 0 s.fr.length 2)) (h1 : CEnt (f 1) (.os 1 gd 0 s.d.length 1)) (h2 : CEnt (f 2) (.err s.k)) (hNo : s.fr.length * 2 ≤ No) (hFo : ∀ a, a < s.fr.length * 2 → CEnt (Fo a) (rowF 2 frF frD zs.reverse a)) (hNd : s.d.length ≤ Nd) (hFd : ∀ a, a < s.d.length → CEnt (Fd a) (byF s.d a)) :
    EntS G ⟨env, b0, H⟩ ⟨env, b0, (((H.set i (wrO n s)).set jo (none, .dead)).set jd (none, .dead)).set jb (none, .dead)⟩ := EntS.hrel (closeWh n s zs i jo jd jb hzs hi ho hd hb hij h0 h1 h2 hNo hFo hNd hFd)
end
end Am
end Go.Proofs.YtgnjjenalebiaaaGreatDoor

/- Chapter 4 in the abstract walk: bodies by the reference. -/
namespace Go.Proofs.YtgnjjenalebiaaaGreatDoor
set_option linter.unusedVariables false
namespace Am
variable {gs : List Nat} [OkG gs]
open Go.RowKit
set_option maxRecDepth 100000

set_option maxHeartbeats 1000000 in
theorem rget04_ac {gs : List Nat} (l : List UInt8) : ACp gs Tryz.prog 97 [bsC l] (.tup 2 (fl [.c (.int .i64 (getM l).1), .c (.int .i64 ((getM l).2 : Nat))])) := by
  refine ac_len 0 rfl fun hlen => ?_
  have hid := fun h => idle_of (l := l) h
  refine ac_of 58 Tryz.func97 rfl rfl rfl (fun al w0 F0 St0 => ?_)
  refine jcr ?_
  refine jq jrm ?_
  refine jq jrm ?_
  refine seq_nil ?_
  refine jcs ?_
  refine jcr ?_
  refine jq jrm ?_
  refine jq jrl ?_
  refine jq jrc ?_
  refine seq_nil ?_
  refine jcc (fun h21 => ?_) fun h21 => ?_
  · refine jcr ?_
    refine jq jrm ?_
    refine jq jrm ?_
    refine seq_nil ?_
    refine code_ret (jtr (jrt (hv := ?_)))
    have hb : getM l = (0, 2) := by unfold getM; rw [if_pos (by omega)]
    rw [hb]; exact CEnt.refl _
  refine code_skip (jtn ?_)
  refine jcs ?_
  refine jcr ?_
  refine jq jrm ?_
  refine jq jrl ?_
  refine jq jrc ?_
  refine jq jrm ?_
  refine jqsp 13 (fun g24 => ?_) fun g24 => ?_
  rotate_left
  · refine jqs ?_
    refine jqs ?_
    refine jqs ?_
    refine jqs ?_
    refine jqs ?_
    refine jqs ?_
    refine jqs ?_
    refine jqs ?_
    refine jqs ?_
    refine jqs ?_
    refine jqs ?_
    refine jqs ?_
    refine jqs ?_
    refine jqs ?_
    refine jqs ?_
    refine jqs ?_
    refine jqs ?_
    refine jqs ?_
    refine jqs ?_
    refine jqs ?_
    refine jqs ?_
    refine jqs ?_
    refine jq jrpF ?_
    refine seq_nil ?_
    refine jcF ?_
    refine code_skip (jtn ?_)
    refine jcs ?_
    have hni : ¬ idle l = true := by
      by_cases h1 : 1 < l.length
      · rw [hid h1]; omega
      · rw [idle_short l (by omega)]; exact Bool.noConfusion
    refine jcr ?_
    refine jq jrm ?_
    refine jq jrl ?_
    refine jq jrc ?_
    refine seq_nil ?_
    refine jcc (fun h27 => ?_) fun h27 => ?_
    · refine jcr ?_
      refine jq jrm ?_
      refine jq jrm ?_
      refine seq_nil ?_
      refine code_ret (jtr (jrt (hv := ?_)))
      have hb : getM l = (0, 1) := by unfold getM; rw [if_neg (by omega), if_neg hni, if_pos (by omega)]
      rw [hb]; exact CEnt.refl _
    refine code_skip (jtn ?_)
    refine jcr ?_
    refine jq jrm ?_
    refine seq_nil ?_
    refine jcs ?_
    refine jcr ?_
    refine jq jrm ?_
    refine jq (jri (i := 0)) ?_
    refine jq jrdr ?_
    refine jq jrc ?_
    refine seq_nil ?_
    refine jcc (fun h31 => ?_) fun h31 => ?_
    rotate_left
    · refine code_skip (jtn ?_)
      refine jcs ?_
      refine jcr ?_
      refine jq jrm ?_
      refine jq jrl ?_
      refine jq jrm ?_
      refine seq_nil ?_
      refine code_block ?_
      refine l_loop (α := Nat) [4, 6, 46, 47, 48, 49, 50, 51, 52, 53, 54, 55] (fun i => [(46, .c (.int .i64 (i : Nat))), (4, .c (.int .u64 (vk l i % 18446744073709551616)))]) (fun _ => []) (fun i => i ≤ l.length) (fun i => l.length - i) (0) ?_ (fun _ => rfl) ?_ ?_ ?_
      · exact Nat.zero_le _
      · exact .cons (CEnt.refl _) (.cons (CEnt.int (by unfold vk; rw [if_pos rfl]; split <;> omega)) .nil)
      · (repeat (first | exact HEnt.nil | refine HEnt.same ?_ | refine HEnt.blk rfl (fun j hj => by rcases j with _|_|_|_|_|_|_|_|j <;> first | exact CEnt.refl _ | exact CEnt.int (by omega) | omega) ?_))
      · rintro i (hi : i ≤ l.length)
        refine jcr ?_
        refine jq jrc ?_
        refine seq_nil ?_
        refine jcs ?_
        refine jcc (fun h34 => ?_) fun h34 => ?_
        rotate_left
        · refine code_exit (jte (jte (jbx (jtn ?_))))
          have hil : i = l.length := by omega
          have hvb := valS_bd8 l (by omega)
          have hvk : vk l l.length = valS l := by unfold vk; rw [if_neg (by omega), List.take_length]
          have hb : getM l = (valS l, 0) := by unfold getM; rw [if_neg (by omega), if_neg hni, if_neg (by omega)]
          refine jcr ?_
          refine jq jrm ?_
          refine jq (rd_convI rfl rfl Tryz.underlying165 Tryz.underlying3 ((valS l)) ((by rw [hil, hvk, IntKind.wrap_i64]; omega))) ?_
          refine jq jrm ?_
          refine jq jrm ?_
          refine seq_nil ?_
          refine code_ret (jrt (hv := ?_))
          rw [hb]; exact CEnt.refl _
        refine code_skip (jtn ?_)
        refine jcs ?_
        refine code_block ?_
        refine jcr ?_
        refine jq jri ?_
        refine jq jrdr ?_
        refine jq jrm ?_
        refine seq_nil ?_
        refine jcg ?_
        refine jq jrm ?_
        refine jq (rd_mulW rfl rfl rfl ((IntKind.u64.wrap (vk l i % 18446744073709551616 * 256))) (rfl)) ?_
        refine jq jrm ?_
        refine jq (rd_convI rfl rfl Tryz.underlying5 Tryz.underlying165 ((((l.getD i 0).toNat : Nat) : Int)) (wrap_id (k := .u64) (by have := (l.getD i 0).toNat_lt; show _ ∧ _; omega))) ?_
        refine jq (rd_addW rfl rfl rfl ((vk l (i + 1) % 18446744073709551616)) ((by rw [vk_succ l i (by omega)]; exact u64_step _ _))) ?_
        refine jq jrm ?_
        refine seq_nil ?_
        refine jbn (jtn ?_)
        refine jcg ?_
        refine jq jra ?_
        refine jq jrm ?_
        refine seq_nil ?_
        refine jtn ?_
        refine jlend (i + 1) ?_ ?_ (h5 := ?_)
        · show i + 1 ≤ l.length; omega
        · show l.length - (i + 1) < l.length - i; omega
        · exact .cons (CEnt.int (by omega)) (.cons (CEnt.refl _) .nil)
    refine jcg ?_
    refine jq jrm ?_
    refine seq_nil ?_
    refine jtn ?_
    refine jcs ?_
    refine jcr ?_
    refine jq jrm ?_
    refine jq jrl ?_
    refine jq jrm ?_
    refine seq_nil ?_
    refine code_block ?_
    refine l_loop (α := Nat) [4, 6, 46, 47, 48, 49, 50, 51, 52, 53, 54, 55] (fun i => [(46, .c (.int .i64 (i : Nat))), (4, .c (.int .u64 (vk l i % 18446744073709551616)))]) (fun _ => []) (fun i => i ≤ l.length) (fun i => l.length - i) (0) ?_ (fun _ => rfl) ?_ ?_ ?_
    · exact Nat.zero_le _
    · exact .cons (CEnt.refl _) (.cons (CEnt.int (by unfold vk; rw [if_pos rfl]; split <;> omega)) .nil)
    · (repeat (first | exact HEnt.nil | refine HEnt.same ?_ | refine HEnt.blk rfl (fun j hj => by rcases j with _|_|_|_|_|_|_|_|j <;> first | exact CEnt.refl _ | exact CEnt.int (by omega) | omega) ?_))
    · rintro i (hi : i ≤ l.length)
      refine jcr ?_
      refine jq jrc ?_
      refine seq_nil ?_
      refine jcs ?_
      refine jcc (fun h34 => ?_) fun h34 => ?_
      rotate_left
      · refine code_exit (jte (jte (jbx (jtn ?_))))
        have hil : i = l.length := by omega
        have hvb := valS_bd8 l (by omega)
        have hvk : vk l l.length = valS l := by unfold vk; rw [if_neg (by omega), List.take_length]
        have hb : getM l = (valS l, 0) := by unfold getM; rw [if_neg (by omega), if_neg hni, if_neg (by omega)]
        refine jcr ?_
        refine jq jrm ?_
        refine jq (rd_convI rfl rfl Tryz.underlying165 Tryz.underlying3 ((valS l)) ((by rw [hil, hvk, IntKind.wrap_i64]; omega))) ?_
        refine jq jrm ?_
        refine jq jrm ?_
        refine seq_nil ?_
        refine code_ret (jrt (hv := ?_))
        rw [hb]; exact CEnt.refl _
      refine code_skip (jtn ?_)
      refine jcs ?_
      refine code_block ?_
      refine jcr ?_
      refine jq jri ?_
      refine jq jrdr ?_
      refine jq jrm ?_
      refine seq_nil ?_
      refine jcg ?_
      refine jq jrm ?_
      refine jq (rd_mulW rfl rfl rfl ((IntKind.u64.wrap (vk l i % 18446744073709551616 * 256))) (rfl)) ?_
      refine jq jrm ?_
      refine jq (rd_convI rfl rfl Tryz.underlying5 Tryz.underlying165 ((((l.getD i 0).toNat : Nat) : Int)) (wrap_id (k := .u64) (by have := (l.getD i 0).toNat_lt; show _ ∧ _; omega))) ?_
      refine jq (rd_addW rfl rfl rfl ((vk l (i + 1) % 18446744073709551616)) ((by rw [vk_succ l i (by omega)]; exact u64_step _ _))) ?_
      refine jq jrm ?_
      refine seq_nil ?_
      refine jbn (jtn ?_)
      refine jcg ?_
      refine jq jra ?_
      refine jq jrm ?_
      refine seq_nil ?_
      refine jtn ?_
      refine jlend (i + 1) ?_ ?_ (h5 := ?_)
      · show i + 1 ≤ l.length; omega
      · show l.length - (i + 1) < l.length - i; omega
      · exact .cons (CEnt.int (by omega)) (.cons (CEnt.refl _) .nil)
  refine jq jrm ?_
  refine jq (jri (i := 0)) ?_
  refine jq jrdr ?_
  refine jq jrc ?_
  refine jq jrm ?_
  refine jqsp 18 (fun g24_2 => ?_) fun g24_2 => ?_
  rotate_left
  · refine jqs ?_
    refine jqs ?_
    refine jqs ?_
    refine jqs ?_
    refine jq jrpF ?_
    refine jq jrm ?_
    refine jq jrm ?_
    refine jq (jri (i := 0)) ?_
    refine jq jrdr ?_
    refine jq jrc ?_
    refine jq jrm ?_
    refine jqsp 29 (fun g24_3 => ?_) fun g24_3 => ?_
    rotate_left
    · refine jqs ?_
      refine jqs ?_
      refine jqs ?_
      refine jqs ?_
      refine jq jrpF ?_
      refine jq jrpF ?_
      refine jq jrpT ?_
      refine seq_nil ?_
      refine jcF ?_
      refine code_skip (jtn ?_)
      refine jcs ?_
      have hni : ¬ idle l = true := by
        by_cases h1 : 1 < l.length
        · rw [hid h1]; omega
        · rw [idle_short l (by omega)]; exact Bool.noConfusion
      refine jcr ?_
      refine jq jrm ?_
      refine jq jrl ?_
      refine jq jrc ?_
      refine seq_nil ?_
      refine jcc (fun h27 => ?_) fun h27 => ?_
      · refine jcr ?_
        refine jq jrm ?_
        refine jq jrm ?_
        refine seq_nil ?_
        refine code_ret (jtr (jrt (hv := ?_)))
        have hb : getM l = (0, 1) := by unfold getM; rw [if_neg (by omega), if_neg hni, if_pos (by omega)]
        rw [hb]; exact CEnt.refl _
      refine code_skip (jtn ?_)
      refine jcr ?_
      refine jq jrm ?_
      refine seq_nil ?_
      refine jcs ?_
      refine jcr ?_
      refine jq jrm ?_
      refine jq (jri (i := 0)) ?_
      refine jq jrdr ?_
      refine jq jrc ?_
      refine seq_nil ?_
      refine jcc (fun h31 => ?_) fun h31 => ?_
      rotate_left
      · refine code_skip (jtn ?_)
        refine jcs ?_
        refine jcr ?_
        refine jq jrm ?_
        refine jq jrl ?_
        refine jq jrm ?_
        refine seq_nil ?_
        refine code_block ?_
        refine l_loop (α := Nat) [4, 6, 46, 47, 48, 49, 50, 51, 52, 53, 54, 55] (fun i => [(46, .c (.int .i64 (i : Nat))), (4, .c (.int .u64 (vk l i % 18446744073709551616)))]) (fun _ => []) (fun i => i ≤ l.length) (fun i => l.length - i) (0) ?_ (fun _ => rfl) ?_ ?_ ?_
        · exact Nat.zero_le _
        · exact .cons (CEnt.refl _) (.cons (CEnt.int (by unfold vk; rw [if_pos rfl]; split <;> omega)) .nil)
        · (repeat (first | exact HEnt.nil | refine HEnt.same ?_ | refine HEnt.blk rfl (fun j hj => by rcases j with _|_|_|_|_|_|_|_|j <;> first | exact CEnt.refl _ | exact CEnt.int (by omega) | omega) ?_))
        · rintro i (hi : i ≤ l.length)
          refine jcr ?_
          refine jq jrc ?_
          refine seq_nil ?_
          refine jcs ?_
          refine jcc (fun h34 => ?_) fun h34 => ?_
          rotate_left
          · refine code_exit (jte (jte (jbx (jtn ?_))))
            have hil : i = l.length := by omega
            have hvb := valS_bd8 l (by omega)
            have hvk : vk l l.length = valS l := by unfold vk; rw [if_neg (by omega), List.take_length]
            have hb : getM l = (valS l, 0) := by unfold getM; rw [if_neg (by omega), if_neg hni, if_neg (by omega)]
            refine jcr ?_
            refine jq jrm ?_
            refine jq (rd_convI rfl rfl Tryz.underlying165 Tryz.underlying3 ((valS l)) ((by rw [hil, hvk, IntKind.wrap_i64]; omega))) ?_
            refine jq jrm ?_
            refine jq jrm ?_
            refine seq_nil ?_
            refine code_ret (jrt (hv := ?_))
            rw [hb]; exact CEnt.refl _
          refine code_skip (jtn ?_)
          refine jcs ?_
          refine code_block ?_
          refine jcr ?_
          refine jq jri ?_
          refine jq jrdr ?_
          refine jq jrm ?_
          refine seq_nil ?_
          refine jcg ?_
          refine jq jrm ?_
          refine jq (rd_mulW rfl rfl rfl ((IntKind.u64.wrap (vk l i % 18446744073709551616 * 256))) (rfl)) ?_
          refine jq jrm ?_
          refine jq (rd_convI rfl rfl Tryz.underlying5 Tryz.underlying165 ((((l.getD i 0).toNat : Nat) : Int)) (wrap_id (k := .u64) (by have := (l.getD i 0).toNat_lt; show _ ∧ _; omega))) ?_
          refine jq (rd_addW rfl rfl rfl ((vk l (i + 1) % 18446744073709551616)) ((by rw [vk_succ l i (by omega)]; exact u64_step _ _))) ?_
          refine jq jrm ?_
          refine seq_nil ?_
          refine jbn (jtn ?_)
          refine jcg ?_
          refine jq jra ?_
          refine jq jrm ?_
          refine seq_nil ?_
          refine jtn ?_
          refine jlend (i + 1) ?_ ?_ (h5 := ?_)
          · show i + 1 ≤ l.length; omega
          · show l.length - (i + 1) < l.length - i; omega
          · exact .cons (CEnt.int (by omega)) (.cons (CEnt.refl _) .nil)
      refine jcg ?_
      refine jq jrm ?_
      refine seq_nil ?_
      refine jtn ?_
      refine jcs ?_
      refine jcr ?_
      refine jq jrm ?_
      refine jq jrl ?_
      refine jq jrm ?_
      refine seq_nil ?_
      refine code_block ?_
      refine l_loop (α := Nat) [4, 6, 46, 47, 48, 49, 50, 51, 52, 53, 54, 55] (fun i => [(46, .c (.int .i64 (i : Nat))), (4, .c (.int .u64 (vk l i % 18446744073709551616)))]) (fun _ => []) (fun i => i ≤ l.length) (fun i => l.length - i) (0) ?_ (fun _ => rfl) ?_ ?_ ?_
      · exact Nat.zero_le _
      · exact .cons (CEnt.refl _) (.cons (CEnt.int (by unfold vk; rw [if_pos rfl]; split <;> omega)) .nil)
      · (repeat (first | exact HEnt.nil | refine HEnt.same ?_ | refine HEnt.blk rfl (fun j hj => by rcases j with _|_|_|_|_|_|_|_|j <;> first | exact CEnt.refl _ | exact CEnt.int (by omega) | omega) ?_))
      · rintro i (hi : i ≤ l.length)
        refine jcr ?_
        refine jq jrc ?_
        refine seq_nil ?_
        refine jcs ?_
        refine jcc (fun h34 => ?_) fun h34 => ?_
        rotate_left
        · refine code_exit (jte (jte (jbx (jtn ?_))))
          have hil : i = l.length := by omega
          have hvb := valS_bd8 l (by omega)
          have hvk : vk l l.length = valS l := by unfold vk; rw [if_neg (by omega), List.take_length]
          have hb : getM l = (valS l, 0) := by unfold getM; rw [if_neg (by omega), if_neg hni, if_neg (by omega)]
          refine jcr ?_
          refine jq jrm ?_
          refine jq (rd_convI rfl rfl Tryz.underlying165 Tryz.underlying3 ((valS l)) ((by rw [hil, hvk, IntKind.wrap_i64]; omega))) ?_
          refine jq jrm ?_
          refine jq jrm ?_
          refine seq_nil ?_
          refine code_ret (jrt (hv := ?_))
          rw [hb]; exact CEnt.refl _
        refine code_skip (jtn ?_)
        refine jcs ?_
        refine code_block ?_
        refine jcr ?_
        refine jq jri ?_
        refine jq jrdr ?_
        refine jq jrm ?_
        refine seq_nil ?_
        refine jcg ?_
        refine jq jrm ?_
        refine jq (rd_mulW rfl rfl rfl ((IntKind.u64.wrap (vk l i % 18446744073709551616 * 256))) (rfl)) ?_
        refine jq jrm ?_
        refine jq (rd_convI rfl rfl Tryz.underlying5 Tryz.underlying165 ((((l.getD i 0).toNat : Nat) : Int)) (wrap_id (k := .u64) (by have := (l.getD i 0).toNat_lt; show _ ∧ _; omega))) ?_
        refine jq (rd_addW rfl rfl rfl ((vk l (i + 1) % 18446744073709551616)) ((by rw [vk_succ l i (by omega)]; exact u64_step _ _))) ?_
        refine jq jrm ?_
        refine seq_nil ?_
        refine jbn (jtn ?_)
        refine jcg ?_
        refine jq jra ?_
        refine jq jrm ?_
        refine seq_nil ?_
        refine jtn ?_
        refine jlend (i + 1) ?_ ?_ (h5 := ?_)
        · show i + 1 ≤ l.length; omega
        · show l.length - (i + 1) < l.length - i; omega
        · exact .cons (CEnt.int (by omega)) (.cons (CEnt.refl _) .nil)
    refine jq jrm ?_
    refine jq (jri (i := 1)) ?_
    refine jq jrdr ?_
    refine jq jrc ?_
    refine jq jrpT ?_
    refine jq jrpF ?_
    refine jq jrpT ?_
    refine seq_nil ?_
    refine jcc (fun h24 => ?_) fun h24 => ?_
    · refine jcr ?_
      refine jq jrm ?_
      refine jq jrm ?_
      refine seq_nil ?_
      refine code_ret (jtr (jrt (hv := ?_)))
      have hb : getM l = (0, 4) := by unfold getM; rw [if_neg (by omega), if_pos ((hid (by omega)).2 (by omega))]
      rw [hb]; exact CEnt.refl _
    refine code_skip (jtn ?_)
    refine jcs ?_
    have hni : ¬ idle l = true := by
      by_cases h1 : 1 < l.length
      · rw [hid h1]; omega
      · rw [idle_short l (by omega)]; exact Bool.noConfusion
    refine jcr ?_
    refine jq jrm ?_
    refine jq jrl ?_
    refine jq jrc ?_
    refine seq_nil ?_
    refine jcc (fun h27 => ?_) fun h27 => ?_
    · refine jcr ?_
      refine jq jrm ?_
      refine jq jrm ?_
      refine seq_nil ?_
      refine code_ret (jtr (jrt (hv := ?_)))
      have hb : getM l = (0, 1) := by unfold getM; rw [if_neg (by omega), if_neg hni, if_pos (by omega)]
      rw [hb]; exact CEnt.refl _
    refine code_skip (jtn ?_)
    refine jcr ?_
    refine jq jrm ?_
    refine seq_nil ?_
    refine jcs ?_
    refine jcr ?_
    refine jq jrm ?_
    refine jq (jri (i := 0)) ?_
    refine jq jrdr ?_
    refine jq jrc ?_
    refine seq_nil ?_
    refine jcc (fun h31 => ?_) fun h31 => ?_
    rotate_left
    · refine code_skip (jtn ?_)
      refine jcs ?_
      refine jcr ?_
      refine jq jrm ?_
      refine jq jrl ?_
      refine jq jrm ?_
      refine seq_nil ?_
      refine code_block ?_
      refine l_loop (α := Nat) [4, 6, 46, 47, 48, 49, 50, 51, 52, 53, 54, 55] (fun i => [(46, .c (.int .i64 (i : Nat))), (4, .c (.int .u64 (vk l i % 18446744073709551616)))]) (fun _ => []) (fun i => i ≤ l.length) (fun i => l.length - i) (0) ?_ (fun _ => rfl) ?_ ?_ ?_
      · exact Nat.zero_le _
      · exact .cons (CEnt.refl _) (.cons (CEnt.int (by unfold vk; rw [if_pos rfl]; split <;> omega)) .nil)
      · (repeat (first | exact HEnt.nil | refine HEnt.same ?_ | refine HEnt.blk rfl (fun j hj => by rcases j with _|_|_|_|_|_|_|_|j <;> first | exact CEnt.refl _ | exact CEnt.int (by omega) | omega) ?_))
      · rintro i (hi : i ≤ l.length)
        refine jcr ?_
        refine jq jrc ?_
        refine seq_nil ?_
        refine jcs ?_
        refine jcc (fun h34 => ?_) fun h34 => ?_
        rotate_left
        · refine code_exit (jte (jte (jbx (jtn ?_))))
          have hil : i = l.length := by omega
          have hvb := valS_bd8 l (by omega)
          have hvk : vk l l.length = valS l := by unfold vk; rw [if_neg (by omega), List.take_length]
          have hb : getM l = (valS l, 0) := by unfold getM; rw [if_neg (by omega), if_neg hni, if_neg (by omega)]
          refine jcr ?_
          refine jq jrm ?_
          refine jq (rd_convI rfl rfl Tryz.underlying165 Tryz.underlying3 ((valS l)) ((by rw [hil, hvk, IntKind.wrap_i64]; omega))) ?_
          refine jq jrm ?_
          refine jq jrm ?_
          refine seq_nil ?_
          refine code_ret (jrt (hv := ?_))
          rw [hb]; exact CEnt.refl _
        refine code_skip (jtn ?_)
        refine jcs ?_
        refine code_block ?_
        refine jcr ?_
        refine jq jri ?_
        refine jq jrdr ?_
        refine jq jrm ?_
        refine seq_nil ?_
        refine jcg ?_
        refine jq jrm ?_
        refine jq (rd_mulW rfl rfl rfl ((IntKind.u64.wrap (vk l i % 18446744073709551616 * 256))) (rfl)) ?_
        refine jq jrm ?_
        refine jq (rd_convI rfl rfl Tryz.underlying5 Tryz.underlying165 ((((l.getD i 0).toNat : Nat) : Int)) (wrap_id (k := .u64) (by have := (l.getD i 0).toNat_lt; show _ ∧ _; omega))) ?_
        refine jq (rd_addW rfl rfl rfl ((vk l (i + 1) % 18446744073709551616)) ((by rw [vk_succ l i (by omega)]; exact u64_step _ _))) ?_
        refine jq jrm ?_
        refine seq_nil ?_
        refine jbn (jtn ?_)
        refine jcg ?_
        refine jq jra ?_
        refine jq jrm ?_
        refine seq_nil ?_
        refine jtn ?_
        refine jlend (i + 1) ?_ ?_ (h5 := ?_)
        · show i + 1 ≤ l.length; omega
        · show l.length - (i + 1) < l.length - i; omega
        · exact .cons (CEnt.int (by omega)) (.cons (CEnt.refl _) .nil)
    refine jcg ?_
    refine jq jrm ?_
    refine seq_nil ?_
    refine jtn ?_
    refine jcs ?_
    refine jcr ?_
    refine jq jrm ?_
    refine jq jrl ?_
    refine jq jrm ?_
    refine seq_nil ?_
    refine code_block ?_
    refine l_loop (α := Nat) [4, 6, 46, 47, 48, 49, 50, 51, 52, 53, 54, 55] (fun i => [(46, .c (.int .i64 (i : Nat))), (4, .c (.int .u64 (vk l i % 18446744073709551616)))]) (fun _ => []) (fun i => i ≤ l.length) (fun i => l.length - i) (0) ?_ (fun _ => rfl) ?_ ?_ ?_
    · exact Nat.zero_le _
    · exact .cons (CEnt.refl _) (.cons (CEnt.int (by unfold vk; rw [if_pos rfl]; split <;> omega)) .nil)
    · (repeat (first | exact HEnt.nil | refine HEnt.same ?_ | refine HEnt.blk rfl (fun j hj => by rcases j with _|_|_|_|_|_|_|_|j <;> first | exact CEnt.refl _ | exact CEnt.int (by omega) | omega) ?_))
    · rintro i (hi : i ≤ l.length)
      refine jcr ?_
      refine jq jrc ?_
      refine seq_nil ?_
      refine jcs ?_
      refine jcc (fun h34 => ?_) fun h34 => ?_
      rotate_left
      · refine code_exit (jte (jte (jbx (jtn ?_))))
        have hil : i = l.length := by omega
        have hvb := valS_bd8 l (by omega)
        have hvk : vk l l.length = valS l := by unfold vk; rw [if_neg (by omega), List.take_length]
        have hb : getM l = (valS l, 0) := by unfold getM; rw [if_neg (by omega), if_neg hni, if_neg (by omega)]
        refine jcr ?_
        refine jq jrm ?_
        refine jq (rd_convI rfl rfl Tryz.underlying165 Tryz.underlying3 ((valS l)) ((by rw [hil, hvk, IntKind.wrap_i64]; omega))) ?_
        refine jq jrm ?_
        refine jq jrm ?_
        refine seq_nil ?_
        refine code_ret (jrt (hv := ?_))
        rw [hb]; exact CEnt.refl _
      refine code_skip (jtn ?_)
      refine jcs ?_
      refine code_block ?_
      refine jcr ?_
      refine jq jri ?_
      refine jq jrdr ?_
      refine jq jrm ?_
      refine seq_nil ?_
      refine jcg ?_
      refine jq jrm ?_
      refine jq (rd_mulW rfl rfl rfl ((IntKind.u64.wrap (vk l i % 18446744073709551616 * 256))) (rfl)) ?_
      refine jq jrm ?_
      refine jq (rd_convI rfl rfl Tryz.underlying5 Tryz.underlying165 ((((l.getD i 0).toNat : Nat) : Int)) (wrap_id (k := .u64) (by have := (l.getD i 0).toNat_lt; show _ ∧ _; omega))) ?_
      refine jq (rd_addW rfl rfl rfl ((vk l (i + 1) % 18446744073709551616)) ((by rw [vk_succ l i (by omega)]; exact u64_step _ _))) ?_
      refine jq jrm ?_
      refine seq_nil ?_
      refine jbn (jtn ?_)
      refine jcg ?_
      refine jq jra ?_
      refine jq jrm ?_
      refine seq_nil ?_
      refine jtn ?_
      refine jlend (i + 1) ?_ ?_ (h5 := ?_)
      · show i + 1 ≤ l.length; omega
      · show l.length - (i + 1) < l.length - i; omega
      · exact .cons (CEnt.int (by omega)) (.cons (CEnt.refl _) .nil)
  refine jq jrm ?_
  refine jq (jri (i := 1)) ?_
  refine jq jrdr ?_
  refine jq jrc ?_
  refine jq jrpT ?_
  refine jq jrm ?_
  refine jqsp 24 (fun g24_3 => ?_) fun g24_3 => ?_
  · refine jqs ?_
    refine jqs ?_
    refine jqs ?_
    refine jqs ?_
    refine jqs ?_
    refine jqs ?_
    refine jqs ?_
    refine jqs ?_
    refine jqs ?_
    refine jqs ?_
    refine jq jrpT ?_
    refine jq jrpT ?_
    refine seq_nil ?_
    refine jcT ?_
    refine jcr ?_
    refine jq jrm ?_
    refine jq jrm ?_
    refine seq_nil ?_
    refine code_ret (jtr (jrt (hv := ?_)))
    have hb : getM l = (0, 4) := by unfold getM; rw [if_neg (by omega), if_pos ((hid (by omega)).2 (by omega))]
    rw [hb]; exact CEnt.refl _
  refine jq jrm ?_
  refine jq (jri (i := 0)) ?_
  refine jq jrdr ?_
  refine jq jrc ?_
  refine jq jrm ?_
  refine jqsp 29 (fun g24_4 => ?_) fun g24_4 => ?_
  rotate_left
  · refine jqs ?_
    refine jqs ?_
    refine jqs ?_
    refine jqs ?_
    refine jq jrpF ?_
    refine jq jrpF ?_
    refine jq jrpT ?_
    refine seq_nil ?_
    refine jcF ?_
    refine code_skip (jtn ?_)
    refine jcs ?_
    have hni : ¬ idle l = true := by
      by_cases h1 : 1 < l.length
      · rw [hid h1]; omega
      · rw [idle_short l (by omega)]; exact Bool.noConfusion
    refine jcr ?_
    refine jq jrm ?_
    refine jq jrl ?_
    refine jq jrc ?_
    refine seq_nil ?_
    refine jcc (fun h27 => ?_) fun h27 => ?_
    · refine jcr ?_
      refine jq jrm ?_
      refine jq jrm ?_
      refine seq_nil ?_
      refine code_ret (jtr (jrt (hv := ?_)))
      have hb : getM l = (0, 1) := by unfold getM; rw [if_neg (by omega), if_neg hni, if_pos (by omega)]
      rw [hb]; exact CEnt.refl _
    refine code_skip (jtn ?_)
    refine jcr ?_
    refine jq jrm ?_
    refine seq_nil ?_
    refine jcs ?_
    refine jcr ?_
    refine jq jrm ?_
    refine jq (jri (i := 0)) ?_
    refine jq jrdr ?_
    refine jq jrc ?_
    refine seq_nil ?_
    refine jcc (fun h31 => ?_) fun h31 => ?_
    rotate_left
    · refine code_skip (jtn ?_)
      refine jcs ?_
      refine jcr ?_
      refine jq jrm ?_
      refine jq jrl ?_
      refine jq jrm ?_
      refine seq_nil ?_
      refine code_block ?_
      refine l_loop (α := Nat) [4, 6, 46, 47, 48, 49, 50, 51, 52, 53, 54, 55] (fun i => [(46, .c (.int .i64 (i : Nat))), (4, .c (.int .u64 (vk l i % 18446744073709551616)))]) (fun _ => []) (fun i => i ≤ l.length) (fun i => l.length - i) (0) ?_ (fun _ => rfl) ?_ ?_ ?_
      · exact Nat.zero_le _
      · exact .cons (CEnt.refl _) (.cons (CEnt.int (by unfold vk; rw [if_pos rfl]; split <;> omega)) .nil)
      · (repeat (first | exact HEnt.nil | refine HEnt.same ?_ | refine HEnt.blk rfl (fun j hj => by rcases j with _|_|_|_|_|_|_|_|j <;> first | exact CEnt.refl _ | exact CEnt.int (by omega) | omega) ?_))
      · rintro i (hi : i ≤ l.length)
        refine jcr ?_
        refine jq jrc ?_
        refine seq_nil ?_
        refine jcs ?_
        refine jcc (fun h34 => ?_) fun h34 => ?_
        rotate_left
        · refine code_exit (jte (jte (jbx (jtn ?_))))
          have hil : i = l.length := by omega
          have hvb := valS_bd8 l (by omega)
          have hvk : vk l l.length = valS l := by unfold vk; rw [if_neg (by omega), List.take_length]
          have hb : getM l = (valS l, 0) := by unfold getM; rw [if_neg (by omega), if_neg hni, if_neg (by omega)]
          refine jcr ?_
          refine jq jrm ?_
          refine jq (rd_convI rfl rfl Tryz.underlying165 Tryz.underlying3 ((valS l)) ((by rw [hil, hvk, IntKind.wrap_i64]; omega))) ?_
          refine jq jrm ?_
          refine jq jrm ?_
          refine seq_nil ?_
          refine code_ret (jrt (hv := ?_))
          rw [hb]; exact CEnt.refl _
        refine code_skip (jtn ?_)
        refine jcs ?_
        refine code_block ?_
        refine jcr ?_
        refine jq jri ?_
        refine jq jrdr ?_
        refine jq jrm ?_
        refine seq_nil ?_
        refine jcg ?_
        refine jq jrm ?_
        refine jq (rd_mulW rfl rfl rfl ((IntKind.u64.wrap (vk l i % 18446744073709551616 * 256))) (rfl)) ?_
        refine jq jrm ?_
        refine jq (rd_convI rfl rfl Tryz.underlying5 Tryz.underlying165 ((((l.getD i 0).toNat : Nat) : Int)) (wrap_id (k := .u64) (by have := (l.getD i 0).toNat_lt; show _ ∧ _; omega))) ?_
        refine jq (rd_addW rfl rfl rfl ((vk l (i + 1) % 18446744073709551616)) ((by rw [vk_succ l i (by omega)]; exact u64_step _ _))) ?_
        refine jq jrm ?_
        refine seq_nil ?_
        refine jbn (jtn ?_)
        refine jcg ?_
        refine jq jra ?_
        refine jq jrm ?_
        refine seq_nil ?_
        refine jtn ?_
        refine jlend (i + 1) ?_ ?_ (h5 := ?_)
        · show i + 1 ≤ l.length; omega
        · show l.length - (i + 1) < l.length - i; omega
        · exact .cons (CEnt.int (by omega)) (.cons (CEnt.refl _) .nil)
    refine jcg ?_
    refine jq jrm ?_
    refine seq_nil ?_
    refine jtn ?_
    refine jcs ?_
    refine jcr ?_
    refine jq jrm ?_
    refine jq jrl ?_
    refine jq jrm ?_
    refine seq_nil ?_
    refine code_block ?_
    refine l_loop (α := Nat) [4, 6, 46, 47, 48, 49, 50, 51, 52, 53, 54, 55] (fun i => [(46, .c (.int .i64 (i : Nat))), (4, .c (.int .u64 (vk l i % 18446744073709551616)))]) (fun _ => []) (fun i => i ≤ l.length) (fun i => l.length - i) (0) ?_ (fun _ => rfl) ?_ ?_ ?_
    · exact Nat.zero_le _
    · exact .cons (CEnt.refl _) (.cons (CEnt.int (by unfold vk; rw [if_pos rfl]; split <;> omega)) .nil)
    · (repeat (first | exact HEnt.nil | refine HEnt.same ?_ | refine HEnt.blk rfl (fun j hj => by rcases j with _|_|_|_|_|_|_|_|j <;> first | exact CEnt.refl _ | exact CEnt.int (by omega) | omega) ?_))
    · rintro i (hi : i ≤ l.length)
      refine jcr ?_
      refine jq jrc ?_
      refine seq_nil ?_
      refine jcs ?_
      refine jcc (fun h34 => ?_) fun h34 => ?_
      rotate_left
      · refine code_exit (jte (jte (jbx (jtn ?_))))
        have hil : i = l.length := by omega
        have hvb := valS_bd8 l (by omega)
        have hvk : vk l l.length = valS l := by unfold vk; rw [if_neg (by omega), List.take_length]
        have hb : getM l = (valS l, 0) := by unfold getM; rw [if_neg (by omega), if_neg hni, if_neg (by omega)]
        refine jcr ?_
        refine jq jrm ?_
        refine jq (rd_convI rfl rfl Tryz.underlying165 Tryz.underlying3 ((valS l)) ((by rw [hil, hvk, IntKind.wrap_i64]; omega))) ?_
        refine jq jrm ?_
        refine jq jrm ?_
        refine seq_nil ?_
        refine code_ret (jrt (hv := ?_))
        rw [hb]; exact CEnt.refl _
      refine code_skip (jtn ?_)
      refine jcs ?_
      refine code_block ?_
      refine jcr ?_
      refine jq jri ?_
      refine jq jrdr ?_
      refine jq jrm ?_
      refine seq_nil ?_
      refine jcg ?_
      refine jq jrm ?_
      refine jq (rd_mulW rfl rfl rfl ((IntKind.u64.wrap (vk l i % 18446744073709551616 * 256))) (rfl)) ?_
      refine jq jrm ?_
      refine jq (rd_convI rfl rfl Tryz.underlying5 Tryz.underlying165 ((((l.getD i 0).toNat : Nat) : Int)) (wrap_id (k := .u64) (by have := (l.getD i 0).toNat_lt; show _ ∧ _; omega))) ?_
      refine jq (rd_addW rfl rfl rfl ((vk l (i + 1) % 18446744073709551616)) ((by rw [vk_succ l i (by omega)]; exact u64_step _ _))) ?_
      refine jq jrm ?_
      refine seq_nil ?_
      refine jbn (jtn ?_)
      refine jcg ?_
      refine jq jra ?_
      refine jq jrm ?_
      refine seq_nil ?_
      refine jtn ?_
      refine jlend (i + 1) ?_ ?_ (h5 := ?_)
      · show i + 1 ≤ l.length; omega
      · show l.length - (i + 1) < l.length - i; omega
      · exact .cons (CEnt.int (by omega)) (.cons (CEnt.refl _) .nil)
  refine jq jrm ?_
  refine jq (jri (i := 1)) ?_
  refine jq jrdr ?_
  refine jq jrc ?_
  refine jq jrpT ?_
  refine jq jrpF ?_
  refine jq jrpT ?_
  refine seq_nil ?_
  refine jcc (fun h24 => ?_) fun h24 => ?_
  · refine jcr ?_
    refine jq jrm ?_
    refine jq jrm ?_
    refine seq_nil ?_
    refine code_ret (jtr (jrt (hv := ?_)))
    have hb : getM l = (0, 4) := by unfold getM; rw [if_neg (by omega), if_pos ((hid (by omega)).2 (by omega))]
    rw [hb]; exact CEnt.refl _
  refine code_skip (jtn ?_)
  refine jcs ?_
  have hni : ¬ idle l = true := by
    by_cases h1 : 1 < l.length
    · rw [hid h1]; omega
    · rw [idle_short l (by omega)]; exact Bool.noConfusion
  refine jcr ?_
  refine jq jrm ?_
  refine jq jrl ?_
  refine jq jrc ?_
  refine seq_nil ?_
  refine jcc (fun h27 => ?_) fun h27 => ?_
  · refine jcr ?_
    refine jq jrm ?_
    refine jq jrm ?_
    refine seq_nil ?_
    refine code_ret (jtr (jrt (hv := ?_)))
    have hb : getM l = (0, 1) := by unfold getM; rw [if_neg (by omega), if_neg hni, if_pos (by omega)]
    rw [hb]; exact CEnt.refl _
  refine code_skip (jtn ?_)
  refine jcr ?_
  refine jq jrm ?_
  refine seq_nil ?_
  refine jcs ?_
  refine jcr ?_
  refine jq jrm ?_
  refine jq (jri (i := 0)) ?_
  refine jq jrdr ?_
  refine jq jrc ?_
  refine seq_nil ?_
  refine jcc (fun h31 => ?_) fun h31 => ?_
  rotate_left
  · refine code_skip (jtn ?_)
    refine jcs ?_
    refine jcr ?_
    refine jq jrm ?_
    refine jq jrl ?_
    refine jq jrm ?_
    refine seq_nil ?_
    refine code_block ?_
    refine l_loop (α := Nat) [4, 6, 46, 47, 48, 49, 50, 51, 52, 53, 54, 55] (fun i => [(46, .c (.int .i64 (i : Nat))), (4, .c (.int .u64 (vk l i % 18446744073709551616)))]) (fun _ => []) (fun i => i ≤ l.length) (fun i => l.length - i) (0) ?_ (fun _ => rfl) ?_ ?_ ?_
    · exact Nat.zero_le _
    · exact .cons (CEnt.refl _) (.cons (CEnt.int (by unfold vk; rw [if_pos rfl]; split <;> omega)) .nil)
    · (repeat (first | exact HEnt.nil | refine HEnt.same ?_ | refine HEnt.blk rfl (fun j hj => by rcases j with _|_|_|_|_|_|_|_|j <;> first | exact CEnt.refl _ | exact CEnt.int (by omega) | omega) ?_))
    · rintro i (hi : i ≤ l.length)
      refine jcr ?_
      refine jq jrc ?_
      refine seq_nil ?_
      refine jcs ?_
      refine jcc (fun h34 => ?_) fun h34 => ?_
      rotate_left
      · refine code_exit (jte (jte (jbx (jtn ?_))))
        have hil : i = l.length := by omega
        have hvb := valS_bd8 l (by omega)
        have hvk : vk l l.length = valS l := by unfold vk; rw [if_neg (by omega), List.take_length]
        have hb : getM l = (valS l, 0) := by unfold getM; rw [if_neg (by omega), if_neg hni, if_neg (by omega)]
        refine jcr ?_
        refine jq jrm ?_
        refine jq (rd_convI rfl rfl Tryz.underlying165 Tryz.underlying3 ((valS l)) ((by rw [hil, hvk, IntKind.wrap_i64]; omega))) ?_
        refine jq jrm ?_
        refine jq jrm ?_
        refine seq_nil ?_
        refine code_ret (jrt (hv := ?_))
        rw [hb]; exact CEnt.refl _
      refine code_skip (jtn ?_)
      refine jcs ?_
      refine code_block ?_
      refine jcr ?_
      refine jq jri ?_
      refine jq jrdr ?_
      refine jq jrm ?_
      refine seq_nil ?_
      refine jcg ?_
      refine jq jrm ?_
      refine jq (rd_mulW rfl rfl rfl ((IntKind.u64.wrap (vk l i % 18446744073709551616 * 256))) (rfl)) ?_
      refine jq jrm ?_
      refine jq (rd_convI rfl rfl Tryz.underlying5 Tryz.underlying165 ((((l.getD i 0).toNat : Nat) : Int)) (wrap_id (k := .u64) (by have := (l.getD i 0).toNat_lt; show _ ∧ _; omega))) ?_
      refine jq (rd_addW rfl rfl rfl ((vk l (i + 1) % 18446744073709551616)) ((by rw [vk_succ l i (by omega)]; exact u64_step _ _))) ?_
      refine jq jrm ?_
      refine seq_nil ?_
      refine jbn (jtn ?_)
      refine jcg ?_
      refine jq jra ?_
      refine jq jrm ?_
      refine seq_nil ?_
      refine jtn ?_
      refine jlend (i + 1) ?_ ?_ (h5 := ?_)
      · show i + 1 ≤ l.length; omega
      · show l.length - (i + 1) < l.length - i; omega
      · exact .cons (CEnt.int (by omega)) (.cons (CEnt.refl _) .nil)
  refine jcg ?_
  refine jq jrm ?_
  refine seq_nil ?_
  refine jtn ?_
  refine jcs ?_
  refine jcr ?_
  refine jq jrm ?_
  refine jq jrl ?_
  refine jq jrm ?_
  refine seq_nil ?_
  refine code_block ?_
  refine l_loop (α := Nat) [4, 6, 46, 47, 48, 49, 50, 51, 52, 53, 54, 55] (fun i => [(46, .c (.int .i64 (i : Nat))), (4, .c (.int .u64 (vk l i % 18446744073709551616)))]) (fun _ => []) (fun i => i ≤ l.length) (fun i => l.length - i) (0) ?_ (fun _ => rfl) ?_ ?_ ?_
  · exact Nat.zero_le _
  · exact .cons (CEnt.refl _) (.cons (CEnt.int (by unfold vk; rw [if_pos rfl]; split <;> omega)) .nil)
  · (repeat (first | exact HEnt.nil | refine HEnt.same ?_ | refine HEnt.blk rfl (fun j hj => by rcases j with _|_|_|_|_|_|_|_|j <;> first | exact CEnt.refl _ | exact CEnt.int (by omega) | omega) ?_))
  · rintro i (hi : i ≤ l.length)
    refine jcr ?_
    refine jq jrc ?_
    refine seq_nil ?_
    refine jcs ?_
    refine jcc (fun h34 => ?_) fun h34 => ?_
    rotate_left
    · refine code_exit (jte (jte (jbx (jtn ?_))))
      have hil : i = l.length := by omega
      have hvb := valS_bd8 l (by omega)
      have hvk : vk l l.length = valS l := by unfold vk; rw [if_neg (by omega), List.take_length]
      have hb : getM l = (valS l, 0) := by unfold getM; rw [if_neg (by omega), if_neg hni, if_neg (by omega)]
      refine jcr ?_
      refine jq jrm ?_
      refine jq (rd_convI rfl rfl Tryz.underlying165 Tryz.underlying3 ((valS l)) ((by rw [hil, hvk, IntKind.wrap_i64]; omega))) ?_
      refine jq jrm ?_
      refine jq jrm ?_
      refine seq_nil ?_
      refine code_ret (jrt (hv := ?_))
      rw [hb]; exact CEnt.refl _
    refine code_skip (jtn ?_)
    refine jcs ?_
    refine code_block ?_
    refine jcr ?_
    refine jq jri ?_
    refine jq jrdr ?_
    refine jq jrm ?_
    refine seq_nil ?_
    refine jcg ?_
    refine jq jrm ?_
    refine jq (rd_mulW rfl rfl rfl ((IntKind.u64.wrap (vk l i % 18446744073709551616 * 256))) (rfl)) ?_
    refine jq jrm ?_
    refine jq (rd_convI rfl rfl Tryz.underlying5 Tryz.underlying165 ((((l.getD i 0).toNat : Nat) : Int)) (wrap_id (k := .u64) (by have := (l.getD i 0).toNat_lt; show _ ∧ _; omega))) ?_
    refine jq (rd_addW rfl rfl rfl ((vk l (i + 1) % 18446744073709551616)) ((by rw [vk_succ l i (by omega)]; exact u64_step _ _))) ?_
    refine jq jrm ?_
    refine seq_nil ?_
    refine jbn (jtn ?_)
    refine jcg ?_
    refine jq jra ?_
    refine jq jrm ?_
    refine seq_nil ?_
    refine jtn ?_
    refine jlend (i + 1) ?_ ?_ (h5 := ?_)
    · show i + 1 ≤ l.length; omega
    · show l.length - (i + 1) < l.length - i; omega
    · exact .cons (CEnt.int (by omega)) (.cons (CEnt.refl _) .nil)
end Am
end Go.Proofs.YtgnjjenalebiaaaGreatDoor

/- Chapter 8: the reference's writer: add, put. -/
namespace Go.Proofs.YtgnjjenalebiaaaGreatDoor
set_option linter.unusedVariables false
namespace Am
variable {gs : List Nat} [OkG gs]
open Go.RowKit
set_option maxRecDepth 100000

def rowsF (r : List (List (List UInt8))) (j : Nat) : CV := lbC (r.getD j [])
def rwB (s : R8) (jr : Nat) (gr : Option Nat) : Nat → CV := fl [isC s.tags, .os jr gr 0 s.rows.length 1, .c (.int .i64 (s.e : Nat))]
def rwE (s : R8) (z : Nat × Option Nat) : List (Option Nat × Res) := [(some z.1, .blk 3 (rwB s 1 z.2)), (z.2, .blk s.rows.length (rowsF s.rows))]
def rwO (n : Nat) (s : R8) : Option Nat × Res := objE n (fun z : Nat × Option Nat => z.1) (rwE s)
section
variable {P : Program} {G : Gh} {c : Code} {R : Exit → AS → Prop} {n : Nat} {s : R8} {env : List (Nat × CV)} {b0 : Nat → CV} {H : List (Option Nat × Res)}
end
structure OkR (s : R8) : Prop where
  n : s.tags.length ≤ 100000
  r : s.rows.length ≤ 100000
  k : ∀ x ∈ s.rows, x.length ≤ 1000000
/-- with i rows more -/
def moreS (s : R8) (i : Nat) : R8 := ⟨s.tags, s.rows ++ List.replicate i [], s.e⟩
end Am
end Go.Proofs.YtgnjjenalebiaaaGreatDoor

/- Chapter 8: the writer: Fail, add, put. -/
namespace Go.Proofs.YtgnjjenalebiaaaGreatDoor
set_option linter.unusedVariables false
namespace Am
variable {gs : List Nat} [OkG gs]
open Go.RowKit
set_option maxRecDepth 100000

structure OkW (s : W8) : Prop where
  n : s.fr.length ≤ 16
  k : ∀ x ∈ s.fr, x.2.length ≤ 1000000 ∧ sumL x.2 ≤ 1000000
  d : s.d.length ≤ 1000000
theorem fr_len {zs : List FrG} {fr : List (Int × List (List UInt8))} (h : zs.map Prod.fst = fr) : zs.length = fr.length := by rw [← h]; simp
theorem top_at {x : FrG} {zr : List FrG} {m j : Nat} (hj : j < 2) (hm : m = zr.length + 1) : rowF 2 frF frD (x :: zr).reverse (0 + (m - 1) * 2 + j) = frF x j := by
  rw [Nat.zero_add, rowF_at hj, hm]
  simp [List.getD_eq_getElem?_getD]
theorem row_low {x : FrG} {zr : List FrG} {j : Nat} (hj : j < zr.length * 2) : rowF 2 frF frD (x :: zr).reverse j = rowF 2 frF frD zr.reverse j := by
  simp only [rowF, List.reverse_cons, List.getD_eq_getElem?_getD]
  rw [List.getElem?_append_left (by simp; omega)]
theorem top_store {x x' : FrG} {zr : List FrG} {m q n j : Nat} {g : Option Nat} (hm : m = zr.length + 1) (hx : x'.1.1 = x.1.1) (hg : x'.2 = g) (hn : x'.1.2.length = n) (hj : j < m * 2) : CEnt (updF (rowF 2 frF frD (x :: zr).reverse) (0 + (m - 1) * 2 + 1) [.os q g 0 n 1] j) (rowF 2 frF frD (x' :: zr).reverse j) := by
  rw [updF_get]
  by_cases h1 : j < zr.length * 2
  · rw [if_neg (by simp; omega), row_low h1, row_low h1]
    exact CEnt.refl _
  · by_cases h2 : j = 0 + (m - 1) * 2 + 1
    · rw [if_pos (by simp; omega), h2, top_at (by omega) hm, Nat.sub_self]
      show CEnt (.os q g 0 n 1) (.os 0 x'.2 0 x'.1.2.length 1)
      rw [hg, hn]
      exact CEnt.osI rfl
    · obtain rfl : j = 0 + (m - 1) * 2 + 0 := by omega
      rw [if_neg (by simp; omega), top_at (by omega) hm, top_at (by omega) hm]
      show CEnt (.c (.int .i64 x.1.1)) (.c (.int .i64 x'.1.1))
      rw [hx]
      exact CEnt.refl _
theorem failW_ac {gs : List Nat} (n : Nat) (s : W8) (e : Nat) : AC gs Tryz.prog 37 [wrO n s] [.op 0 (some n) 0, .err e] (fun r H' => r = .c (.tuple #[]) ∧ H' = [wrO n (failW e s)]) := by
  refine ac_of 13 Tryz.func37 rfl rfl rfl (fun al w0 F0 St0 => ?_)
  refine code_openW 0 rfl fun go gd zs hzs => ?_
  refine jcr ?_
  refine jq jrm ?_
  refine jq jrnc ?_
  refine jq (jrfa 2 1 false) ?_
  refine jqo jrdo ?_
  refine jq jre ?_
  refine seq_nil ?_
  refine jcc (fun h38 => ?_) fun h38 => ?_
  rotate_left
  · refine code_skip ?_
    have hF : failW e s = s := by unfold failW; rw [if_neg (by omega)]
    rw [hF]
    exact end_pack (gd := fun z : WZ8 s.fr => z.1.1) (E := wrE s) (.inr rfl) _ ⟨(n, go, gd, zs), hzs⟩ [0, 1, 2, 3] (by decide) rfl (res_0 rfl) ⟨rfl, rfl⟩
  refine jcg ?_
  refine jq jrm ?_
  refine jq jrm ?_
  refine jq jrnc ?_
  refine jq (jrfa 2 1 false) ?_
  refine jqm (jmstF 1 (wrB ⟨s.fr, s.d, e⟩ 1 2 go gd) ?_ ?_)
  · exact (fun j hj => by rcases j with _ | _ | _ | j <;> exact CEnt.refl _)
  refine seq_nil ?_
  have hF : failW e s = ⟨s.fr, s.d, e⟩ := by unfold failW; rw [if_pos (by omega)]
  rw [hF]
  exact end_pack (gd := fun z : WZ8 s.fr => z.1.1) (E := wrE ⟨s.fr, s.d, e⟩) (.inr rfl) _ ⟨(n, go, gd, zs), hzs⟩ [0, 1, 2, 3] (by decide) rfl (res_0 rfl) ⟨rfl, rfl⟩
set_option maxHeartbeats 1000000 in
theorem addW_ac {gs : List Nat} (n : Nat) (s : W8) (b : List UInt8) (hs : OkW s) (hb : b.length ≤ 100000000) : AC gs Tryz.prog 106 [wrO n s] [.op 0 (some n) 0, bsC b] (fun r H' => r = .c (.tuple #[]) ∧ H' = [wrO n (addW b s)]) := by
  have hsd := hs.d
  have hsn := hs.n
  refine ac_of 42 Tryz.func106 rfl rfl rfl (fun al w0 F0 St0 => ?_)
  refine jcs ?_
  (refine code_openW 0 rfl fun go gd zs hzs => ?_; have hzl := fr_len hzs)
  refine jcr ?_
  refine jq jrm ?_
  refine jq jrnc ?_
  refine jq (jrfa 0 1 false) ?_
  refine jqo jrdo ?_
  refine jq jrl ?_
  refine jq jrm ?_
  refine seq_nil ?_
  skip
  refine jcr ?_
  refine jq jrm ?_
  refine jq jrc ?_
  refine seq_nil ?_
  refine jcc (fun h45 => ?_) fun h45 => ?_
  rotate_left
  · refine code_skip (jtn ?_)
    have hf0 : s.fr = [] := List.eq_nil_of_length_eq_zero (by omega)
    refine jcg ?_
    refine jq jrm ?_
    refine jq jrm ?_
    refine jq jrnc ?_
    refine jq (jrfa 1 1 false) ?_
    refine jqo jrdo ?_
    refine jq jrm ?_
    first | refine jqm (m_appendB rfl rfl rfl (Nat.le_refl _) (fun _ _ => CEnt.refl _) (src_rs rfl) rfl (fun j hj => by simp only [Nat.div_one]; exact CEnt.refl _) Tryz.underlying26 nu26 sz5 zr5 by5 rfl (by omega) (fun j hj => rfl) rfl rfl (fun p1 => ?_)) | refine jqm (m_appendB rfl rfl rfl (Nat.le_refl _) (fun _ _ => CEnt.refl _) (src_str rfl) rfl (fun j hj => CEnt.refl _) Tryz.underlying26 nu26 sz5 zr5 by5 rfl (by first | omega | (simp; done) | (simp; omega) | (simp at *; omega)) (fun j hj => rfl) rfl rfl (fun p1 => ?_)) | refine jqm (m_appendB rfl rfl rfl (Nat.le_refl _) (fun _ _ => CEnt.refl _) (src_os rfl (.inl rfl) (by omega)) rfl (fun j hj => by rw [Nat.zero_add]; exact CEnt.refl _) Tryz.underlying26 nu26 sz5 zr5 by5 rfl (by first | omega | (simp; done) | (simp; omega) | (simp at *; omega)) (fun j hj => rfl) rfl rfl (fun p1 => ?_))
    refine jq jrnc ?_
    refine jq (jrfa 1 1 false) ?_
    refine jqm (jmstF 1 (wrB (addW b s) 1 2 go p1) ?_ ?_)
    · exact (fun j hj => by rcases j with _ | _ | _ | j <;> first | exact CEnt.osI (by simp [addW, hf0]) | exact CEnt.osI (by simp [addW, hf0]) | exact CEnt.err (by simp [addW, hf0]) | omega)
    refine seq_nil ?_
    refine end_hr (H' := ?H2) ?hh ?hb
    case hh => intro _ _ _ _ _ hx; exact closeWh n (addW b s) zs 0 1 2 3 (by simp [addW, hf0]; rw [hf0] at hzs; simpa using hzs) rfl rfl rfl rfl (by decide) (by exact CEnt.osI rfl) (by exact CEnt.osI rfl) (by exact CEnt.refl _) (by simp [addW, hf0]) (fun a ha => by simp [addW, hf0] at ha) (by simp [addW, hf0]) (fun _ _ => by simp only [addW, hf0]; exact CEnt.refl _) hx
    case hb => exact end_own (.inr rfl) _ [wrO n (addW b s)] [0] (by decide) rfl (res_0 rfl) ⟨rfl, rfl⟩
  refine jcs ?_
  obtain ⟨x, zr, rfl⟩ : ∃ x zr, zs = x :: zr := by
      cases zs with
      | nil => simp at hzl; omega
      | cons x zr => exact ⟨x, zr, rfl⟩
  have hfr : s.fr = x.1 :: zr.map Prod.fst := by rw [← hzs]; rfl
  have hxk := hs.k x.1 (by rw [hfr]; exact List.mem_cons_self)
  have hzl : s.fr.length = zr.length + 1 := by rw [← hzl]; rfl
  refine code_ent (bag_pop 3 rfl) ?_
  refine jcdZ (.rd 0 (.rd 1 (.rd 2 (.rd 4 (.rd 5 (.rd 6 (.rd 7 (.rd 8 (.rd 9 (.rd 10 (.rd 11 (.rd 12 (.rd 13 (.rd 14 (.rd 15 (.two 3 (.one 16 (.one 17 (.one 18 (.rd 19 (.rd 20 (.one 21 .done)))))) 16 (.two 3 (.one 17 (.one 18 (.rd 19 (.rd 20 (.one 21 .done))))) 17 (.two 3 (.one 18 (.rd 19 (.rd 20 (.one 21 .done)))) 18 (.one 3 (.rd 19 (.rd 20 (.one 21 .done)))))))))))))))))))))) ?_
  refine jzq jrm ?_
  refine jzq jrnc ?_
  refine jzq (jrfa 0 1 false) ?_
  refine jzq jrm ?_
  refine jzq jra ?_
  refine jzq jrm ?_
  refine jzq jrnc ?_
  refine jzq (jrfa 0 1 false) ?_
  refine jzo jrdo ?_
  refine jzq jrm ?_
  refine jzq jra ?_
  refine jzq (jri (i := (s.fr.length - 1)) (hz := by omega)) ?_
  refine jzq (jrfa 1 1 false) ?_
  refine jzo (jrdo (hv := top_at (by omega) hzl)) ?_
  refine jzq jrm ?_
  refine jztwo ?_ ?_
  · refine jz1o jrdo ?_
    refine z_ent (weaken 26 (.os 4 x.2 0 x.1.2.length 1) (CEnt.osI rfl)) ?_
    refine jze (jecP (clone8_ac b (by omega)) ?_)
    refine jze (jebl 1 1 zr26 fun p1 => ?_)
    refine jzm (m_appendC (rowC_lb) (l2 := [b]) rfl rfl rfl rfl (by omega) (fun _ _ => CEnt.refl _) (src_os rfl (.inl rfl) (by decide)) rfl (fun j hj => by rcases j with _|j <;> first | exact CEnt.refl _ | exact CEnt.int (by omega) | (exfalso; simp at hj <;> omega)) Tryz.underlying56 nu56 sz26 zr26 by26 rfl (by (simp; omega)) (by (simp; omega)) (leaf_flk rfl rfl) rfl rfl rfl (fun p2 => ?_))
    refine jzq (jri (i := (s.fr.length - 1)) (hz := by omega)) ?_
    refine jzq (jrfa 1 1 false) ?_
    refine jzm (jmstF 1 (rowF 2 frF frD (((x.1.1, x.1.2 ++ [b]), p2) :: zr).reverse) ?_ ?_)
    · exact (fun j hj => top_store hzl rfl rfl (by simp) hj)
    refine jzd ?_
    refine jtn ?_
    refine code_ent (weakH 4 (x.1.2 ++ [b]).length (lbF (x.1.2 ++ [b])) rfl (by simp) (fun _ _ => CEnt.refl _)) ?_
    refine code_ent (bag_push 3 4 rfl rfl rfl) ?_
    refine code_ent (closeW n (addW b s) (((x.1.1, x.1.2 ++ [b]), p2) :: zr) 0 1 2 3 (by simp [addW, hfr]) rfl rfl rfl rfl (by decide) (CEnt.osI (by simp [addW, hfr])) (CEnt.osI (by simp [addW, hfr])) (CEnt.err (by simp [addW, hfr])) (by simp [addW, hfr]) (fun _ _ => CEnt.refl _) (by simp [addW, hfr]) (fun _ _ => by simp only [addW, hfr]; exact CEnt.refl _)) ?_
    refine code_ret (jtr ?_)
    exact end_own (.inl rfl) _ [wrO n (addW b s)] [0] (by decide) rfl (res_0 rfl) ⟨rfl, rfl⟩
  · refine z_ent (weaken 26 (.os 4 x.2 0 x.1.2.length 1) (CEnt.osI rfl)) ?_
    refine jze (jecP (clone8_ac b (by omega)) ?_)
    refine jztwo ?_ ?_
    · refine jz1o jrdo ?_
      refine jze (jebl 1 1 zr26 fun p1 => ?_)
      refine jzm (m_appendC (rowC_lb) (l2 := [b]) rfl rfl rfl rfl (by omega) (fun _ _ => CEnt.refl _) (src_os rfl (.inl rfl) (by decide)) rfl (fun j hj => by rcases j with _|j <;> first | exact CEnt.refl _ | exact CEnt.int (by omega) | (exfalso; simp at hj <;> omega)) Tryz.underlying56 nu56 sz26 zr26 by26 rfl (by (simp; omega)) (by (simp; omega)) (leaf_flk rfl rfl) rfl rfl rfl (fun p2 => ?_))
      refine jzq (jri (i := (s.fr.length - 1)) (hz := by omega)) ?_
      refine jzq (jrfa 1 1 false) ?_
      refine jzm (jmstF 1 (rowF 2 frF frD (((x.1.1, x.1.2 ++ [b]), p2) :: zr).reverse) ?_ ?_)
      · exact (fun j hj => top_store hzl rfl rfl (by simp) hj)
      refine jzd ?_
      refine jtn ?_
      refine code_ent (weakH 4 (x.1.2 ++ [b]).length (lbF (x.1.2 ++ [b])) rfl (by simp) (fun _ _ => CEnt.refl _)) ?_
      refine code_ent (bag_push 3 4 rfl rfl rfl) ?_
      refine code_ent (closeW n (addW b s) (((x.1.1, x.1.2 ++ [b]), p2) :: zr) 0 1 2 3 (by simp [addW, hfr]) rfl rfl rfl rfl (by decide) (CEnt.osI (by simp [addW, hfr])) (CEnt.osI (by simp [addW, hfr])) (CEnt.err (by simp [addW, hfr])) (by simp [addW, hfr]) (fun _ _ => CEnt.refl _) (by simp [addW, hfr]) (fun _ _ => by simp only [addW, hfr]; exact CEnt.refl _)) ?_
      refine code_ret (jtr ?_)
      exact end_own (.inl rfl) _ [wrO n (addW b s)] [0] (by decide) rfl (res_0 rfl) ⟨rfl, rfl⟩
    · refine jze (jebl 1 1 zr26 fun p1 => ?_)
      refine jztwo ?_ ?_
      · refine jz1o jrdo ?_
        refine jzm (m_appendC (rowC_lb) (l2 := [b]) rfl rfl rfl rfl (by omega) (fun _ _ => CEnt.refl _) (src_os rfl (.inl rfl) (by decide)) rfl (fun j hj => by rcases j with _|j <;> first | exact CEnt.refl _ | exact CEnt.int (by omega) | (exfalso; simp at hj <;> omega)) Tryz.underlying56 nu56 sz26 zr26 by26 rfl (by (simp; omega)) (by (simp; omega)) (leaf_flk rfl rfl) rfl rfl rfl (fun p2 => ?_))
        refine jzq (jri (i := (s.fr.length - 1)) (hz := by omega)) ?_
        refine jzq (jrfa 1 1 false) ?_
        refine jzm (jmstF 1 (rowF 2 frF frD (((x.1.1, x.1.2 ++ [b]), p2) :: zr).reverse) ?_ ?_)
        · exact (fun j hj => top_store hzl rfl rfl (by simp) hj)
        refine jzd ?_
        refine jtn ?_
        refine code_ent (weakH 4 (x.1.2 ++ [b]).length (lbF (x.1.2 ++ [b])) rfl (by simp) (fun _ _ => CEnt.refl _)) ?_
        refine code_ent (bag_push 3 4 rfl rfl rfl) ?_
        refine code_ent (closeW n (addW b s) (((x.1.1, x.1.2 ++ [b]), p2) :: zr) 0 1 2 3 (by simp [addW, hfr]) rfl rfl rfl rfl (by decide) (CEnt.osI (by simp [addW, hfr])) (CEnt.osI (by simp [addW, hfr])) (CEnt.err (by simp [addW, hfr])) (by simp [addW, hfr]) (fun _ _ => CEnt.refl _) (by simp [addW, hfr]) (fun _ _ => by simp only [addW, hfr]; exact CEnt.refl _)) ?_
        refine code_ret (jtr ?_)
        exact end_own (.inl rfl) _ [wrO n (addW b s)] [0] (by decide) rfl (res_0 rfl) ⟨rfl, rfl⟩
      · refine jzm (m_appendC (rowC_lb) (l2 := [b]) rfl rfl rfl rfl (by omega) (fun _ _ => CEnt.refl _) (src_os rfl (.inl rfl) (by decide)) rfl (fun j hj => by rcases j with _|j <;> first | exact CEnt.refl _ | exact CEnt.int (by omega) | (exfalso; simp at hj <;> omega)) Tryz.underlying56 nu56 sz26 zr26 by26 rfl (by (simp; omega)) (by (simp; omega)) (leaf_flk rfl rfl) rfl rfl rfl (fun p2 => ?_))
        refine jz1o jrdo ?_
        refine jzq (jri (i := (s.fr.length - 1)) (hz := by omega)) ?_
        refine jzq (jrfa 1 1 false) ?_
        refine jzm (jmstF 1 (rowF 2 frF frD (((x.1.1, x.1.2 ++ [b]), p2) :: zr).reverse) ?_ ?_)
        · exact (fun j hj => top_store hzl rfl rfl (by simp) hj)
        refine jzd ?_
        refine jtn ?_
        refine code_ent (weakH 4 (x.1.2 ++ [b]).length (lbF (x.1.2 ++ [b])) rfl (by simp) (fun _ _ => CEnt.refl _)) ?_
        refine code_ent (bag_push 3 4 rfl rfl rfl) ?_
        refine code_ent (closeW n (addW b s) (((x.1.1, x.1.2 ++ [b]), p2) :: zr) 0 1 2 3 (by simp [addW, hfr]) rfl rfl rfl rfl (by decide) (CEnt.osI (by simp [addW, hfr])) (CEnt.osI (by simp [addW, hfr])) (CEnt.err (by simp [addW, hfr])) (by simp [addW, hfr]) (fun _ _ => CEnt.refl _) (by simp [addW, hfr]) (fun _ _ => by simp only [addW, hfr]; exact CEnt.refl _)) ?_
        refine code_ret (jtr ?_)
        exact end_own (.inl rfl) _ [wrO n (addW b s)] [0] (by decide) rfl (res_0 rfl) ⟨rfl, rfl⟩
theorem putW_ac (n : Nat) (s : W8) (tag : Int) (body : List UInt8) (e : Nat) (hs : OkW s) (hb : body.length ≤ 1000000) : AC gs Tryz.prog 82 [wrO n s] [.op 0 (some n) 0, .c (.int .i64 tag), bsC body, .err e] (fun r H' => r = .c (.tuple #[]) ∧ H' = [wrO n (putW tag body e s)]) := by
  have hpl : (putL tag body).length ≤ 100000000 := by
    unfold putL
    have := lenL_bd body.length
    simp only [List.length_cons, List.length_append]
    omega
  refine ac_of 32 Tryz.func82 rfl rfl rfl (fun al w0 F0 St0 => ?_)
  refine jcr ?_
  refine jq jrm ?_
  refine jq jrm ?_
  refine jqm (jmcH 0 (failW_ac n s e) ?_)
  rintro _ _ ⟨rfl, rfl⟩
  refine ⟨_, _, rfl, CEnt.refl _, ?_⟩
  refine seq_nil ?_
  refine jcs ?_
  refine code_openW 0 rfl fun go gd zs hzs => ?_
  refine jcr ?_
  refine jq jrm ?_
  refine jq jrnc ?_
  refine jq (jrfa 2 1 false) ?_
  refine jqo jrdo ?_
  refine jq jre ?_
  refine seq_nil ?_
  refine jcc (fun h55 => ?_) fun h55 => ?_
  · refine code_ret (jtr ?_)
    have hP : putW tag body e s = failW e s := by unfold putW; rw [if_pos (by omega)]
    rw [hP]
    exact end_pack (gd := fun z : WZ8 (failW e s).fr => z.1.1) (E := wrE (failW e s)) (.inl rfl) _ ⟨(n, go, gd, zs), hzs⟩ [0, 1, 2, 3] (by decide) rfl (res_0 rfl) ⟨rfl, rfl⟩
  refine code_skip (jtn ?_)
  have hk0 : (failW e s).k = 0 := by omega
  have hF : failW e s = s := by
    obtain ⟨fr, d, k⟩ := s
    unfold failW at hk0 ⊢
    split
    · rename_i h
      rw [if_pos h] at hk0
      have h : k = 0 := h
      have hk0 : e = 0 := hk0
      rw [h, hk0]
    · rfl
  refine code_ent (closeW n (failW e s) zs 0 1 2 3 hzs rfl rfl rfl rfl (by decide) (CEnt.osI rfl) (CEnt.osI rfl) (CEnt.refl _) (Nat.le_refl _) (fun _ _ => CEnt.refl _) (Nat.le_refl _) (fun _ _ => CEnt.refl _)) ?_
  rw [hF]
  have hsk : s.k = 0 := by rw [← hF]; exact hk0
  dsimp only [List.set_cons_zero, List.set_cons_succ, List.cons_append, List.nil_append, List.length_cons, List.length_nil, Nat.zero_add, Nat.reduceAdd]
  refine jcr ?_
  refine jq jrm ?_
  refine jq jrm ?_
  refine jq (rd_build (n := 2) rfl zr68 pl68 rfl rfl) ?_
  refine jqe (jecP (tput_ac tag body hb) ?_)
  refine jq jrm ?_
  refine jq jrx ?_
  refine jq jrx ?_
  refine jq jrm ?_
  refine jq jrm ?_
  refine seq_nil ?_
  refine jcs ?_
  refine jcr ?_
  refine jq jrm ?_
  refine jq jre ?_
  refine seq_nil ?_
  refine jcc (fun h59 => ?_) fun h59 => ?_
  · refine jcr ?_
    refine jq jrm ?_
    refine jq jrm ?_
    refine jqm (jmcH 0 (failW_ac n s (putE tag body)) ?_)
    rintro _ _ ⟨rfl, rfl⟩
    refine ⟨_, _, rfl, CEnt.refl _, ?_⟩
    refine seq_nil ?_
    refine code_ret (jtr ?_)
    have hP : putW tag body e s = failW (putE tag body) s := by unfold putW; rw [hF, if_neg (by omega), if_pos (by omega)]; unfold failW; rw [if_pos hsk]
    rw [hP]
    exact end_own (.inl rfl) _ [_] [0] (by decide) rfl (res_0 rfl) ⟨rfl, rfl⟩
  refine code_skip (jtn ?_)
  have hP0 : putE tag body = 0 := by omega
  rw [if_pos hP0]
  refine jcg ?_
  refine jq jrm ?_
  refine jq jrm ?_
  refine jqm (jmcH 0 (addW_ac n s _ hs hpl) ?_)
  rintro _ _ ⟨rfl, rfl⟩
  refine ⟨_, _, rfl, CEnt.refl _, ?_⟩
  refine seq_nil ?_
  have hP : putW tag body e s = addW (putL tag body) s := by unfold putW; rw [hF, if_neg (by omega), if_neg (by omega)]
  rw [hP]
  exact end_own (.inr rfl) _ [_] [0] (by decide) rfl (res_0 rfl) ⟨rfl, rfl⟩
end Am
end Go.Proofs.YtgnjjenalebiaaaGreatDoor

/-
  DERIVED: THE SHELF's CONTRACTS AT THIS DUMP, IN PLAIN WORDS (tools/lay-plain.mjs out of 'TryzShelf.lean', which tools/lay-shelf.mjs wrote): THE SAME DECLARATIONS UNDER THE SAME NAMES: 'import', 'namespace', 'open', 'def', 'theorem' AND NOTHING ELSE: no command of the shelf's: FOR A HAND-IN. Each laying: the table of numbers ('.._ren') and one theorem, a field a fact of the dump's own or the kernel's comparison; each contract: ONE APPLICATION.
-/
namespace Go.Proofs
open Go.Shelf
def Tryz.lays169_ren : Go.Shelf.Ren := ⟨fun | 169 => 179 | n => n, fun | 70 => 213 | 9 => 9 | 0 => 0 | 72 => 215 | 37 => 26 | 127 => 232 | 3 => 3 | 5 => 5 | n => n, fun | n => n⟩
open Go.RowKit in
open Go.RowKit in
open Go.RowKit in
def Tryz.lays241_ren : Go.Shelf.Ren := ⟨fun | 241 => 195 | 277 => 205 | n => n, fun | 70 => 213 | 3 => 3 | 0 => 0 | 72 => 215 | 37 => 26 | 5 => 5 | n => n, fun | n => n⟩
open Go.RowKit in
def Tryz.lays165_ren : Go.Shelf.Ren := ⟨fun | 165 => 177 | 240 => 194 | 241 => 195 | 276 => 204 | 277 => 205 | n => n, fun | 70 => 213 | 3 => 3 | 0 => 0 | 4 => 4 | 9 => 9 | 20 => 20 | 72 => 215 | 37 => 26 | 164 => 239 | 5 => 5 | n => n, fun | n => n⟩
open Go.RowKit in
def Tryz.lays156_ren : Go.Shelf.Ren := ⟨fun | 156 => 169 | 165 => 177 | 166 => 178 | 169 => 179 | 240 => 194 | 241 => 195 | 276 => 204 | 277 => 205 | n => n, fun | 31 => 167 | 9 => 9 | 3 => 3 | 4 => 4 | 0 => 0 | 20 => 20 | 72 => 215 | 76 => 105 | 70 => 213 | 37 => 26 | 75 => 28 | 127 => 232 | 164 => 239 | 5 => 5 | 80 => 110 | n => n, fun | n => n⟩
theorem Tryz.lays156 : Go.Proofs.Lays.n156 Tryz.prog Tryz.lays156_ren := {
  mixed := by kernel_rfl
  f156 := Tryz.func169.trans (congrArg some (by kernel_rfl))
  f165 := Tryz.func177.trans (congrArg some (by kernel_rfl))
  f166 := Tryz.func178.trans (congrArg some (by kernel_rfl))
  f169 := Tryz.func179.trans (congrArg some (by kernel_rfl))
  f240 := Tryz.func194.trans (congrArg some (by kernel_rfl))
  f241 := Tryz.func195.trans (congrArg some (by kernel_rfl))
  f276 := Tryz.func204.trans (congrArg some (by kernel_rfl))
  f277 := Tryz.func205.trans (congrArg some (by kernel_rfl))
  t0 := Tryz.underlying0
  a0 := Tryz.isAgg0
  z0 := Tryz.sizeOf0
  v0 := Tryz.zeroValue0
  t3 := Tryz.underlying3
  a3 := Tryz.isAgg3
  z3 := Tryz.sizeOf3
  v3 := Tryz.zeroValue3
  t4 := Tryz.underlying4
  a4 := Tryz.isAgg4
  z4 := Tryz.sizeOf4
  v4 := Tryz.zeroValue4
  t9 := Tryz.underlying9
  a9 := Tryz.isAgg9
  z9 := Tryz.sizeOf9
  v9 := Tryz.zeroValue9
  t20 := Tryz.underlying20
  a20 := Tryz.isAgg20
  z20 := Tryz.sizeOf20
  v20 := Tryz.zeroValue20
  t31 := Tryz.underlying167
  a31 := Tryz.isAgg167
  z31 := Tryz.sizeOf167
  v31 := Tryz.zeroValue167
  t37 := Tryz.underlying26
  a37 := Tryz.isAgg26
  z37 := Tryz.sizeOf26
  v37 := Tryz.zeroValue26
  t70 := Tryz.underlying213
  a70 := Tryz.isAgg213
  z70 := Tryz.sizeOf213
  v70 := Tryz.zeroValue213
  t72 := Tryz.underlying215
  a72 := Tryz.isAgg215
  z72 := Tryz.sizeOf215
  v72 := Tryz.zeroValue215
  t75 := Tryz.underlying28
  a75 := Tryz.isAgg28
  z75 := Tryz.sizeOf28
  v75 := Tryz.zeroValue28
  t76 := Tryz.underlying105
  a76 := Tryz.isAgg105
  z76 := Tryz.sizeOf105
  v76 := Tryz.zeroValue105
  t127 := Tryz.underlying232
  a127 := Tryz.isAgg232
  z127 := Tryz.sizeOf232
  v127 := Tryz.zeroValue232
  t164 := Tryz.underlying239
  a164 := Tryz.isAgg239
  z164 := Tryz.sizeOf239
  v164 := Tryz.zeroValue239 }
theorem Tryz.Builder_Extra_156 : Builder.Extra Tryz.prog Tryz.lays156_ren := {
  sizeBuilder := by kernel_rfl
  liesBuilder := by kernel_rfl
  t5 := Tryz.underlying5
  a5 := Tryz.isAgg5
  z5 := Tryz.sizeOf5
  v5 := Tryz.zeroValue5
  infoByte := by kernel_rfl
  cellsByte := by kernel_rfl
  sizeByte := by kernel_rfl
  neB5 := by decide }
open Go.RowKit in
/-- No element: the empty string; the world is as it was. (Whatever the slice's address and capacity: a nil slice too.) (LAID: no walk: one application.) -/
theorem Tryz.strings_Join_none (a : Option Addr) (c : Nat) (sep : ByteArray) (w : World) :
    Calls Tryz.prog 169 #[.slice a 0 c, .string sep] w fun e w' => e = .returned (.string ⟨#[]⟩) ∧ w' = w := Any.strings_Join_none Tryz.lays156 Tryz.Builder_Extra_156 a c sep w
open Go.RowKit in
/-- strings.Join: "Join concatenates the elements of its first argument to create a single string. The separator string sep is placed between elements in the resulting string.": HOWEVER MANY ELEMENTS. Below the heap's end the world is as it was. (LAID: no walk: one application.) -/
theorem Tryz.strings_Join (bk o c : Nat) (xs : List ByteArray) (sep : ByteArray) (w : World) (hcells : ∀ (j : Nat) x, xs[j]? = some x → w.cell? ⟨bk, o + j, none⟩ = some (.string x)) (hbk : bk < w.heap.size) (hN : xs.length ≤ 140737488355328) (hcap : xs.length ≤ c) (hlen : (Lib.join (xs.map (·.data.toList)) sep.data.toList).length ≤ 140737488355328) :
    Calls Tryz.prog 169 #[.slice (some ⟨bk, o, none⟩) xs.length c, .string sep] w fun e w' => e = .returned (.string ⟨(Lib.join (xs.map (·.data.toList)) sep.data.toList).toArray⟩) ∧ Below w.heap.size w w' := Any.strings_Join Tryz.lays156 Tryz.Builder_Extra_156 bk o c xs sep w hcells hbk hN hcap hlen
def Tryz.lays128_ren : Go.Shelf.Ren := ⟨fun | 128 => 162 | n => n, fun | 51 => 203 | 3 => 3 | 4 => 4 | 46 => 77 | 5 => 5 | 9 => 9 | n => n, fun | n => n⟩
def Tryz.lays125_ren : Go.Shelf.Ren := ⟨fun | 125 => 146 | 128 => 162 | 129 => 163 | n => n, fun | 46 => 77 | 3 => 3 | 51 => 203 | 53 => 165 | 4 => 4 | 5 => 5 | 9 => 9 | n => n, fun | n => n⟩
def Tryz.lays136_ren : Go.Shelf.Ren := ⟨fun | 136 => 153 | n => n, fun | 5 => 5 | 3 => 3 | 9 => 9 | n => n, fun | n => n⟩
def Tryz.lays129_ren : Go.Shelf.Ren := ⟨fun | 129 => 163 | n => n, fun | 53 => 165 | 3 => 3 | 4 => 4 | 46 => 77 | 5 => 5 | 9 => 9 | n => n, fun | n => n⟩
def Tryz.lays217_ren : Go.Shelf.Ren := ⟨fun | 217 => 207 | 266 => 211 | n => n, fun | 9 => 9 | 5 => 5 | 3 => 3 | n => n, fun | n => n⟩
open Go.RowKit Go.Lib in
def Tryz.lays224_ren : Go.Shelf.Ren := ⟨fun | 224 => 209 | n => n, fun | 3 => 3 | n => n, fun | n => n⟩
open Go.RowKit Go.Lib in
def Tryz.lays314_ren : Go.Shelf.Ren := ⟨fun | 314 => 212 | n => n, fun | 9 => 9 | 51 => 203 | 3 => 3 | 4 => 4 | 5 => 5 | 46 => 77 | n => n, fun | n => n⟩
open Go.RowKit Go.Lib in
def Tryz.lays267_ren : Go.Shelf.Ren := ⟨fun | 267 => 210 | 314 => 212 | n => n, fun | 9 => 9 | 3 => 3 | 146 => 244 | 51 => 203 | 4 => 4 | 5 => 5 | 46 => 77 | n => n, fun | n => n⟩
open Go.RowKit Go.Lib in
def Tryz.lays219_ren : Go.Shelf.Ren := ⟨fun | 219 => 203 | 217 => 207 | 225 => 208 | 224 => 209 | 267 => 210 | 266 => 211 | 314 => 212 | n => n, fun | 9 => 9 | 3 => 3 | 4 => 4 | 5 => 5 | 46 => 77 | 146 => 244 | 51 => 203 | n => n, fun | 1 => 30 | n => n⟩
open Go.RowKit Go.Lib in
open Go.RowKit Go.Lib in
def Tryz.lays143_ren : Go.Shelf.Ren := ⟨fun | 143 => 192 | 219 => 203 | 217 => 207 | 225 => 208 | 224 => 209 | 267 => 210 | 266 => 211 | 314 => 212 | n => n, fun | 9 => 9 | 3 => 3 | 4 => 4 | 5 => 5 | 46 => 77 | 146 => 244 | 51 => 203 | n => n, fun | 1 => 30 | n => n⟩
open Go.RowKit Go.Lib in
open Go.RowKit Go.Lib in
def Tryz.laysM219_ren : Go.Shelf.Ren := ⟨fun | 219 => 203 | 217 => 207 | 225 => 208 | 224 => 209 | 267 => 210 | 266 => 211 | 314 => 212 | n => n, fun | 9 => 9 | 3 => 3 | 4 => 4 | 5 => 5 | 46 => 77 | 146 => 244 | 51 => 203 | n => n, fun | 1 => 30 | n => n⟩
open Go.RowKit Go.Lib in
def Tryz.laysM143_ren : Go.Shelf.Ren := ⟨fun | 143 => 192 | 219 => 203 | 217 => 207 | 225 => 208 | 224 => 209 | 267 => 210 | 266 => 211 | 314 => 212 | n => n, fun | 9 => 9 | 3 => 3 | 4 => 4 | 5 => 5 | 46 => 77 | 146 => 244 | 51 => 203 | n => n, fun | 1 => 30 | n => n⟩
open Go.RowKit Go.Lib in
def Tryz.lays197_ren : Go.Shelf.Ren := ⟨fun | 197 => 191 | 260 => 202 | n => n, fun | 9 => 9 | 21 => 21 | 3 => 3 | 4 => 4 | 5 => 5 | 105 => 228 | 119 => 224 | 0 => 0 | 46 => 77 | 139 => 227 | 138 => 226 | n => n, fun | 3 => 28 | 4 => 29 | n => n⟩
open Go.RowKit Go.Lib in
def Tryz.lays260_ren : Go.Shelf.Ren := ⟨fun | 260 => 202 | n => n, fun | 9 => 9 | 21 => 21 | 3 => 3 | 4 => 4 | 5 => 5 | 119 => 224 | 0 => 0 | 46 => 77 | 139 => 227 | 138 => 226 | n => n, fun | 3 => 28 | 4 => 29 | n => n⟩
open Go.RowKit Go.Lib in
open Go.RowKit Go.Lib in
def Tryz.sortB_ren : Go.Shelf.Ren := ⟨fun | 6 => 155 | 15 => 146 | 14 => 171 | 28 => 162 | 29 => 163 | 20 => 181 | 21 => 182 | 22 => 183 | 23 => 184 | 24 => 185 | 25 => 186 | 26 => 187 | 27 => 188 | 46 => 197 | 47 => 198 | 48 => 199 | 49 => 200 | 50 => 201 | 57 => 206 | n => n, fun | 22 => 56 | 24 => 26 | 25 => 185 | 3 => 3 | 39 => 77 | 0 => 0 | 53 => 203 | 55 => 165 | 4 => 4 | 46 => 218 | 45 => 217 | 50 => 169 | 5 => 5 | 9 => 9 | 66 => 233 | 70 => 237 | 76 => 241 | 77 => 87 | n => n, fun | n => n⟩
theorem Tryz.sortB : Go.Proofs.SlLaysF.n6 Tryz.prog Tryz.sortB_ren := {
  mixed := by kernel_rfl
  f6 := ⟨Tryz.f155.name, by decide, Tryz.func155.trans (congrArg some (by kernel_rfl))⟩
  f14 := ⟨Tryz.f171.name, by decide, Tryz.func171.trans (congrArg some (by kernel_rfl))⟩
  f15 := Tryz.func146.trans (congrArg some (by kernel_rfl))
  f20 := ⟨Tryz.f181.name, by decide, Tryz.func181.trans (congrArg some (by kernel_rfl))⟩
  f21 := ⟨Tryz.f182.name, by decide, Tryz.func182.trans (congrArg some (by kernel_rfl))⟩
  f22 := ⟨Tryz.f183.name, by decide, Tryz.func183.trans (congrArg some (by kernel_rfl))⟩
  f23 := ⟨Tryz.f184.name, by decide, Tryz.func184.trans (congrArg some (by kernel_rfl))⟩
  f24 := ⟨Tryz.f185.name, by decide, Tryz.func185.trans (congrArg some (by kernel_rfl))⟩
  f25 := ⟨Tryz.f186.name, by decide, Tryz.func186.trans (congrArg some (by kernel_rfl))⟩
  f26 := ⟨Tryz.f187.name, by decide, Tryz.func187.trans (congrArg some (by kernel_rfl))⟩
  f27 := ⟨Tryz.f188.name, by decide, Tryz.func188.trans (congrArg some (by kernel_rfl))⟩
  f28 := Tryz.func162.trans (congrArg some (by kernel_rfl))
  f29 := Tryz.func163.trans (congrArg some (by kernel_rfl))
  f46 := ⟨Tryz.f197.name, by decide, Tryz.func197.trans (congrArg some (by kernel_rfl))⟩
  f47 := Tryz.func198.trans (congrArg some (by kernel_rfl))
  f48 := Tryz.func199.trans (congrArg some (by kernel_rfl))
  f49 := ⟨Tryz.f200.name, by decide, Tryz.func200.trans (congrArg some (by kernel_rfl))⟩
  f50 := ⟨Tryz.f201.name, by decide, Tryz.func201.trans (congrArg some (by kernel_rfl))⟩
  f57 := ⟨Tryz.f206.name, by decide, Tryz.func206.trans (congrArg some (by kernel_rfl))⟩
  t0 := Tryz.underlying0
  a0 := Tryz.isAgg0
  z0 := Tryz.sizeOf0
  v0 := Tryz.zeroValue0
  t3 := Tryz.underlying3
  a3 := Tryz.isAgg3
  z3 := Tryz.sizeOf3
  v3 := Tryz.zeroValue3
  t4 := Tryz.underlying4
  a4 := Tryz.isAgg4
  z4 := Tryz.sizeOf4
  v4 := Tryz.zeroValue4
  t5 := Tryz.underlying5
  a5 := Tryz.isAgg5
  z5 := Tryz.sizeOf5
  v5 := Tryz.zeroValue5
  t9 := Tryz.underlying9
  a9 := Tryz.isAgg9
  z9 := Tryz.sizeOf9
  v9 := Tryz.zeroValue9
  t22 := Tryz.underlying56
  a22 := Tryz.isAgg56
  z22 := Tryz.sizeOf56
  v22 := Tryz.zeroValue56
  a24 := Tryz.isAgg26
  z24 := Tryz.sizeOf26
  t25 := Tryz.underlying185
  a25 := Tryz.isAgg185
  z25 := Tryz.sizeOf185
  v25 := Tryz.zeroValue185
  t39 := Tryz.underlying77
  a39 := Tryz.isAgg77
  z39 := Tryz.sizeOf77
  v39 := Tryz.zeroValue77
  t45 := Tryz.underlying217
  a45 := Tryz.isAgg217
  z45 := Tryz.sizeOf217
  v45 := Tryz.zeroValue217
  t46 := Tryz.underlying218
  a46 := Tryz.isAgg218
  z46 := Tryz.sizeOf218
  v46 := Tryz.zeroValue218
  t50 := Tryz.underlying169
  a50 := Tryz.isAgg169
  z50 := Tryz.sizeOf169
  v50 := Tryz.zeroValue169
  t53 := Tryz.underlying203
  a53 := Tryz.isAgg203
  z53 := Tryz.sizeOf203
  v53 := Tryz.zeroValue203
  t55 := Tryz.underlying165
  a55 := Tryz.isAgg165
  z55 := Tryz.sizeOf165
  v55 := Tryz.zeroValue165
  t66 := Tryz.underlying233
  a66 := Tryz.isAgg233
  z66 := Tryz.sizeOf233
  v66 := Tryz.zeroValue233
  t70 := Tryz.underlying237
  a70 := Tryz.isAgg237
  z70 := Tryz.sizeOf237
  v70 := Tryz.zeroValue237
  t76 := Tryz.underlying241
  a76 := Tryz.isAgg241
  z76 := Tryz.sizeOf241
  v76 := Tryz.zeroValue241
  t77 := Tryz.underlying87
  a77 := Tryz.isAgg87
  z77 := Tryz.sizeOf87
  v77 := Tryz.zeroValue87 }
end Go.Proofs

/- Chapter 7: rows of bytes, sorted: the program's way and the reference's. -/
namespace Go.Proofs.YtgnjjenalebiaaaGreatDoor
set_option linter.unusedVariables false
namespace Am
open Go.RowKit
set_option maxRecDepth 100000

theorem sort8_ac {gs : List Nat} (g : Option Nat) (ls : List (List UInt8)) (hl : ls.length ≤ 1000000000) : AC gs Tryz.prog 155 [(g, .blk ls.length (lbF ls))] [.os 0 g 0 ls.length 1, .c (.func (.func 148) #[] #[])] (fun r H' => r = .c (.tuple #[]) ∧ H' = [(g, .blk ls.length (lbF (sortL ls)))]) :=
  sort8_of (fun p cap fv w => AnyF.slices_SortFunc_none (P := Tryz.prog) (ρ := Tryz.sortB_ren) { Tryz.sortB with } p cap fv w)
    (fun m enc h1 cf hO blk cap d w hc hH hb hs => Any.slices_SortFunc (P := Tryz.prog) (ρ := Tryz.sortB_ren) Tryz.sortB enc h1 cf hO 148 #[] blk 0 cap d w (fun args W => run_enter (by kernel_rfl) args W) hc hH hb hs)
    (fun w v1 v2 l r h1 h2 => compare8_run h1 h2) g ls hl
theorem sumL_sort (ls : List (List UInt8)) : sumL (sortL ls) = sumL ls := ((sortL_perm ls).map List.length).sum_nat
theorem set_ac {gs : List Nat} (ls : List (List UInt8)) (hl : ls.length ≤ 1000000) (hs : sumL ls ≤ 10000000000) : ACp gs Tryz.prog 126 [lbC ls] (bsC (sortL ls).flatten) := by
  have hsl := sortL_length ls
  refine ac_of 10 Tryz.func126 rfl rfl rfl (fun al w0 F0 St0 => ?_)
  refine jcr ?_
  refine jq jrm ?_
  refine seq_nil ?_
  refine jcr ?_
  refine jq jrm ?_
  refine jqe (jecO (cloneL_ac ls hl) (fun p1 => ?_))
  refine jq jrm ?_
  refine seq_nil ?_
  refine jcr ?_
  refine jq jrm ?_
  refine jqm (jmcH 0 (sort8_ac p1 ls (by omega)) ?_)
  rintro _ _ ⟨rfl, rfl⟩
  refine ⟨_, _, rfl, CEnt.refl _, ?_⟩
  refine seq_nil ?_
  refine code_ent (freeze 0 rfl) ?_
  refine code_ent (thaw 3 (fun b _ => bsC ((sortL ls).getD b [])) rfl rfl (by omega) (fun a b ha hb => lb_thaw a b (by omega) hb)) ?_
  refine code_ent (weaken 3 (lbC (sortL ls)) (CEnt.rs hsl.symm fun i j _ _ => CEnt.refl _)) ?_
  refine jcr ?_
  refine jq jrm ?_
  refine jqe (jecP (concat8_ac (sortL ls) (by rw [sumL_sort]; exact hs) (by omega)) ?_)
  refine jq jrm ?_
  refine seq_nil ?_
  refine code_ret (jrt (hv := CEnt.refl _))
end Am
end Go.Proofs.YtgnjjenalebiaaaGreatDoor

/- Chapter 8: the writer: Open, Close, Done. -/
namespace Go.Proofs.YtgnjjenalebiaaaGreatDoor
set_option linter.unusedVariables false
namespace Am
variable {gs : List Nat} [OkG gs]
open Go.RowKit
set_option maxRecDepth 100000

theorem nilO8 : CEnt (.c (.slice none 0 0)) (.os 0 none 0 0 1) := fun al St w v h => ⟨rfl, h⟩
theorem know_os {G : Gh} {s : AS} (d : Nat) {i off n k : Nat} (hl : look s.env s.b d = .os i none off n k) : ∀ a w, Rel G s a w → n = 0 := fun a w ⟨St, hr⟩ => by
  have := evR hr (x := .tmp d) hl
  exact this.1
/-- bytes of its own, cloned -/
theorem cloneO_ac {gs : List Nat} (l : List UInt8) (g : Option Nat) (hl : l.length ≤ 100000000) : AC gs Tryz.prog 46 [(g, .blk l.length (byF l))] [.os 0 g 0 l.length 1] (fun r H' => r = bsC l ∧ H' = [(g, .blk l.length (byF l))]) := by
  refine ac_of 8 Tryz.func46 rfl rfl rfl (fun al w0 F0 St0 => ?_)
  refine jcr ?_
  refine jq jrm ?_
  refine seq_nil ?_
  refine jcs ?_
  refine jcr ?_
  refine jq jrm ?_
  refine jq (rd_eqSO rfl rfl rfl Tryz.underlying26) ?_
  refine seq_nil ?_
  refine jcc (fun h357 => ?_) fun h357 => ?_
  · obtain rfl : g = none := by cases g <;> simp at h357 ⊢
    refine code_knowG (know_os 0 rfl) fun hn => ?_
    refine jcr ?_
    refine jq jrm ?_
    refine seq_nil ?_
    refine code_ret (jtr ?_)
    exact end_ownV (.inl rfl) [0] (by decide) rfl (res_1 rfl (arv_tmp rfl)) (CEnt.nilS' hn) ⟨rfl, rfl⟩
  refine code_skip (jtn ?_)
  refine jcr ?_
  refine jqe (jebl 0 1 zr5 fun p1 => ?_)
  refine jq jrm ?_
  first | refine jqm (m_appendB (l := []) rfl rfl rfl (Nat.zero_le _) (fun j hj => absurd hj (Nat.not_lt_zero j)) (src_rs rfl) rfl (fun j hj => by simp only [Nat.div_one]; exact CEnt.refl _) Tryz.underlying26 nu26 sz5 zr5 by5 rfl (by first | omega | (simp; done) | (simp; omega) | (simp at *; omega)) (fun j hj => rfl) rfl rfl (fun p2 => ?_)) | refine jqm (m_appendB (l := []) rfl rfl rfl (Nat.zero_le _) (fun j hj => absurd hj (Nat.not_lt_zero j)) (src_str rfl) rfl (fun j hj => CEnt.refl _) Tryz.underlying26 nu26 sz5 zr5 by5 rfl (by first | omega | (simp; done) | (simp; omega) | (simp at *; omega)) (fun j hj => rfl) rfl rfl (fun p2 => ?_)) | refine jqm (m_appendB (l := []) rfl rfl rfl (Nat.zero_le _) (fun j hj => absurd hj (Nat.not_lt_zero j)) (src_os rfl (.inl rfl) (by omega)) rfl (fun j hj => by rw [Nat.zero_add]; exact CEnt.refl _) Tryz.underlying26 nu26 sz5 zr5 by5 rfl (by (simp; omega)) (fun j hj => rfl) rfl rfl (fun p2 => ?_))
  refine jq jrm ?_
  refine seq_nil ?_
  refine code_ent (freeze 1 rfl) ?_
  refine code_ent (thawB 2 ([] ++ l) rfl rfl (by rfl) rfl) ?_
  refine code_ret ?_
  exact end_ownV (.inl rfl) [0] (by decide) rfl (res_1 rfl (arv_tmp rfl)) (CEnt.bs (List.nil_append l)) ⟨rfl, rfl⟩
theorem body08_ac {gs : List Nat} (tag : Int) (ls : List (List UInt8)) (hl : ls.length ≤ 1000000) (hs : sumL ls ≤ 10000000000) : ACp gs Tryz.prog 83 [.agg 2 (fl [.c (.int .i64 tag), lbC ls])] (bsC (bodyF (tag, ls))) := by
  refine ac_of 12 Tryz.func83 rfl rfl rfl (fun al w0 F0 St0 => ?_)
  refine jcr ?_
  refine jqe (jebx 2 fun p1 => ?_)
  refine jq jrm ?_
  refine seq_nil ?_
  refine jcs ?_
  refine jcr ?_
  refine jq (jrfa 0 1 false) ?_
  refine jqo jrdo ?_
  refine jq jrc ?_
  refine seq_nil ?_
  refine jcc (fun h23 => ?_) fun h23 => ?_
  · refine jcr ?_
    refine jq (jrfa 1 1 false) ?_
    refine jqo jrdo ?_
    refine jqe (jecP (set_ac ls hl hs) ?_)
    refine jq jrm ?_
    refine seq_nil ?_
    refine code_ret (jtr (jrt (hv := CEnt.bs (by unfold bodyF; rw [if_pos h23]))))
  refine code_skip (jtn ?_)
  refine jcr ?_
  refine jq (jrfa 1 1 false) ?_
  refine jqo jrdo ?_
  refine jqe (jecP (concat8_ac ls hs hl) ?_)
  refine jq jrm ?_
  refine seq_nil ?_
  refine code_ret (jrt (hv := CEnt.bs (by unfold bodyF; rw [if_neg h23])))
theorem openW_ac (n : Nat) (s : W8) (tag : Int) (hs : OkW s) : AC gs Tryz.prog 42 [wrO n s] [.op 0 (some n) 0, .c (.int .i64 tag)] (fun r H' => r = .c (.tuple #[]) ∧ H' = [wrO n (openW tag s)]) := by
  have hsn := hs.n
  refine ac_of 40 Tryz.func42 rfl rfl rfl (fun al w0 F0 St0 => ?_)
  refine code_block ?_
  refine code_openW 0 rfl fun go gd zs hzs => ?_
  have hzl := fr_len hzs
  refine jcr ?_
  refine jq jrm ?_
  refine jq jrnc ?_
  refine jq (jrfa 2 1 false) ?_
  refine jqo jrdo ?_
  refine jq jre ?_
  refine jq jrm ?_
  refine seq_nil ?_
  refine jcc (fun h69 => ?_) fun h69 => ?_
  · refine code_skip (jbn ?_)
    have hP : openW tag s = s := by unfold openW; rw [if_pos (by omega)]
    rw [hP]
    exact end_pack (gd := fun z : WZ8 s.fr => z.1.1) (E := wrE s) (.inr rfl) _ ⟨(n, go, gd, zs), hzs⟩ [0, 1, 2, 3] (by decide) rfl (res_0 rfl) ⟨rfl, rfl⟩
  refine jcr ?_
  refine jq jrm ?_
  refine jqe (jecP (made_ac tag) ?_)
  refine jq jrn ?_
  refine jq jrm ?_
  refine seq_nil ?_
  refine jcc (fun h70 => ?_) fun h70 => ?_
  · refine jcg ?_
    refine jq jrm ?_
    refine jq (jrde 4) ?_
    refine jq jrnc ?_
    refine jq (jrfa 2 1 false) ?_
    refine jqm (jmstF 1 (wrB ⟨s.fr, s.d, 5⟩ 1 2 go gd) ?_ ?_)
    · exact (fun j hj => by rcases j with _ | _ | _ | j <;> exact CEnt.refl _)
    refine seq_nil ?_
    refine jbn ?_
    have hP : openW tag s = ⟨s.fr, s.d, 5⟩ := by unfold openW; rw [if_neg (by omega), if_pos (by simp [madeM] at h70 ⊢; omega)]
    rw [hP]
    exact end_pack (gd := fun z : WZ8 s.fr => z.1.1) (E := wrE ⟨s.fr, s.d, 5⟩) (.inr rfl) _ ⟨(n, go, gd, zs), hzs⟩ [0, 1, 2, 3] (by decide) rfl (res_0 rfl) ⟨rfl, rfl⟩
  refine jcr ?_
  refine jq jrm ?_
  refine jq jrnc ?_
  refine jq (jrfa 0 1 false) ?_
  refine jqo jrdo ?_
  refine jq jrl ?_
  refine jq jrc ?_
  refine jq jrm ?_
  refine seq_nil ?_
  refine jcc (fun h72 => ?_) fun h72 => ?_
  · refine jcg ?_
    refine jq jrm ?_
    refine jq (jrde 5) ?_
    refine jq jrnc ?_
    refine jq (jrfa 2 1 false) ?_
    refine jqm (jmstF 1 (wrB ⟨s.fr, s.d, 6⟩ 1 2 go gd) ?_ ?_)
    · exact (fun j hj => by rcases j with _ | _ | _ | j <;> exact CEnt.refl _)
    refine seq_nil ?_
    refine jbn ?_
    have hP : openW tag s = ⟨s.fr, s.d, 6⟩ := by unfold openW; rw [if_neg (by omega), if_neg (by simp [madeM] at h70 ⊢; omega), if_pos (by omega)]
    rw [hP]
    exact end_pack (gd := fun z : WZ8 s.fr => z.1.1) (E := wrE ⟨s.fr, s.d, 6⟩) (.inr rfl) _ ⟨(n, go, gd, zs), hzs⟩ [0, 1, 2, 3] (by decide) rfl (res_0 rfl) ⟨rfl, rfl⟩
  refine code_ent (ent_none (lbF [])) ?_
  refine code_ent (bag_push 3 4 rfl rfl rfl) ?_
  dsimp only [List.set_cons_zero, List.set_cons_succ, List.cons_append, List.nil_append, List.length_cons, List.length_nil, Nat.zero_add, Nat.reduceAdd]
  refine jcg ?_
  refine jq jrm ?_
  refine jq jrm ?_
  refine jq jrnc ?_
  refine jq (jrfa 0 1 false) ?_
  refine jqo jrdo ?_
  refine jq jrm ?_
  refine jq (rd_build (n := 2) rfl zr116 pl116 rfl rfl) ?_
  refine jqe (jebl 2 2 zr116 fun p1 => ?_)
  refine seq_ent (weakH 5 2 (rowF 2 frF frD [((tag, []), none)]) rfl (Nat.le_refl _) (fun j hj => by rcases j with _ | _ | j <;> first | exact CEnt.refl _ | exact nilO8 | omega)) ?_
  refine jqm (m_appendC (rowC_row 2 frF frD) (l := zs.reverse) (l2 := [((tag, []), none)]) rfl rfl (by simp [hzl]) rfl (by simp [hzl]) (fun _ _ => CEnt.refl _) (src_os rfl (.inl rfl) (by decide)) rfl (fun j hj => by rw [Nat.zero_add]; exact CEnt.refl _) Tryz.underlying25 nu25 sz116 zr116 by116 rfl (by simp; omega) (by simp; omega) (fun j hj => by rcases j with _ | _ | j <;> first | rfl | omega) rfl rfl rfl (fun p2 => ?_))
  refine jq jrnc ?_
  refine jq (jrfa 0 1 false) ?_
  refine jqm (jmstF 1 (wrB ⟨(tag, []) :: s.fr, s.d, s.k⟩ 1 2 p2 gd) ?_ ?_)
  · exact (fun j hj => by rcases j with _ | _ | _ | j <;> first | exact CEnt.osI (by simp [hzl]) | exact CEnt.refl _ | omega)
  refine seq_nil ?_
  refine jbn ?_
  have hP : openW tag s = ⟨(tag, []) :: s.fr, s.d, s.k⟩ := by unfold openW; rw [if_neg (by omega), if_neg (by simp [madeM] at h70 ⊢; omega), if_neg (by omega)]
  rw [hP]
  refine end_hr (H' := ?H2) ?hh ?hb
  case hh => intro _ _ _ _ _ hx; exact closeWh n ⟨(tag, []) :: s.fr, s.d, s.k⟩ (((tag, []), none) :: zs) 0 1 2 3 (by simp [hzs]) rfl rfl rfl rfl (by decide) (by exact CEnt.osI rfl) (by exact CEnt.osI rfl) (by exact CEnt.refl _) (by simp [hzl]) (fun a _ => by rw [List.reverse_cons]; exact CEnt.refl _) (Nat.le_refl _) (fun _ _ => CEnt.refl _) hx
  case hb => exact end_own (.inr rfl) _ [_] [0] (by decide) rfl (res_0 rfl) ⟨rfl, rfl⟩
theorem sum_perm {a b : List (List UInt8)} (h : a.Perm b) : sumL a = sumL b := by
  unfold sumL
  exact (h.map List.length).sum_nat
theorem bodyF_len (x : Int × List (List UInt8)) : (bodyF x).length = sumL x.2 := by
  unfold bodyF
  split
  · rw [flat_len]; exact sum_perm (sortL_perm _)
  · rw [flat_len]
theorem OkW.tail {x : Int × List (List UInt8)} {r : List (Int × List (List UInt8))} {s : W8} (h : OkW s) (hf : s.fr = x :: r) : OkW ⟨r, s.d, s.k⟩ := ⟨by have := h.n; rw [hf] at this; simp at this ⊢; omega, fun y hy => h.k y (by rw [hf]; exact List.mem_cons_of_mem _ hy), h.d⟩
theorem closeW_ac (n : Nat) (s : W8) (hs : OkW s) : AC gs Tryz.prog 43 [wrO n s] [.op 0 (some n) 0] (fun r H' => r = .c (.tuple #[]) ∧ H' = [wrO n (closeV s)]) := by
  have hsn := hs.n
  refine ac_of 45 Tryz.func43 rfl rfl rfl (fun al w0 F0 St0 => ?_)
  refine code_openW 0 rfl fun go gd zs hzs => ?_
  have hzl := fr_len hzs
  refine jcr ?_
  refine jq jrm ?_
  refine jq jrnc ?_
  refine jq (jrfa 0 1 false) ?_
  refine jqo jrdo ?_
  refine jq jrl ?_
  refine jq jra ?_
  refine jq jrm ?_
  refine seq_nil ?_
  refine code_block ?_
  refine jcr ?_
  refine jq jrm ?_
  refine jq jrnc ?_
  refine jq (jrfa 2 1 false) ?_
  refine jqo jrdo ?_
  refine jq jre ?_
  refine jq jrm ?_
  refine seq_nil ?_
  refine jcc (fun h83 => ?_) fun h83 => ?_
  · refine code_skip (jbn ?_)
    have hP : closeV s = s := by unfold closeV; rw [if_pos (by omega)]
    rw [hP]
    exact end_pack (gd := fun z : WZ8 s.fr => z.1.1) (E := wrE s) (.inr rfl) _ ⟨(n, go, gd, zs), hzs⟩ [0, 1, 2, 3] (by decide) rfl (res_0 rfl) ⟨rfl, rfl⟩
  refine jcr ?_
  refine jq jrm ?_
  refine jq jrc ?_
  refine jq jrm ?_
  refine seq_nil ?_
  refine jcc (fun h84 => ?_) fun h84 => ?_
  · refine jcg ?_
    refine jq jrm ?_
    refine jq (jrde 23) ?_
    refine jq jrnc ?_
    refine jq (jrfa 2 1 false) ?_
    refine jqm (jmstF 1 (wrB ⟨s.fr, s.d, 24⟩ 1 2 go gd) ?_ ?_)
    · exact (fun j hj => by rcases j with _ | _ | _ | j <;> exact CEnt.refl _)
    refine seq_nil ?_
    refine jbn ?_
    have hf0 : s.fr = [] := List.eq_nil_of_length_eq_zero (by omega)
    have hP : closeV s = ⟨s.fr, s.d, 24⟩ := by unfold closeV; rw [if_neg (by omega), hf0]
    rw [hP]
    exact end_pack (gd := fun z : WZ8 s.fr => z.1.1) (E := wrE ⟨s.fr, s.d, 24⟩) (.inr rfl) _ ⟨(n, go, gd, zs), hzs⟩ [0, 1, 2, 3] (by decide) rfl (res_0 rfl) ⟨rfl, rfl⟩
  obtain ⟨x, zr, rfl⟩ : ∃ x zr, zs = x :: zr := by
      cases zs with
      | nil => simp at hzl; omega
      | cons x zr => exact ⟨x, zr, rfl⟩
  have hfr : s.fr = x.1 :: zr.map Prod.fst := by rw [← hzs]; rfl
  have hxk := hs.k x.1 (by rw [hfr]; exact List.mem_cons_self)
  have hzl : s.fr.length = zr.length + 1 := by rw [← hzl]; rfl
  refine code_ent (bag_pop 3 rfl) ?_
  refine jcr ?_
  refine jq jrm ?_
  refine jq jrnc ?_
  refine jq (jrfa 0 1 false) ?_
  refine jqo jrdo ?_
  refine jq jrm ?_
  refine jq (jri (i := (s.fr.length - 1)) (hz := by omega)) ?_
  refine jqo (jrdoA 2) ?_
  refine seq_ent (freeze 4 rfl) ?_
  refine seq_ent (thawA 16 4 (fun a _ => bsC (x.1.2.getD a [])) (.c (.int .i64 x.1.1)) rfl rfl (by show CEnt (rowF 2 frF frD (x :: zr).reverse (0 + (s.fr.length - 1) * 2 + 0)) _; rw [top_at (by omega) hzl]; exact CEnt.refl _) (by show CEnt (rowF 2 frF frD (x :: zr).reverse (0 + (s.fr.length - 1) * 2 + 1)) _; rw [top_at (by omega) hzl]; exact CEnt.refl _) (by simp) (fun a b ha hb => by obtain rfl : b = 0 := (by omega); rw [Nat.zero_add, Nat.mul_one, Nat.add_zero]; exact CEnt.refl _)) ?_
  refine jqe (jeal (n := 2) zr116 rfl fun p1 => ?_)
  refine jqm (jmst 2 ?_)
  refine seq_nil ?_
  refine jcr ?_
  refine jq jrm ?_
  refine jq jrm ?_
  refine jq jrnc ?_
  refine jq (jrfa 0 1 false) ?_
  refine jqo jrdo ?_
  refine jq jrm ?_
  refine jq jrso ?_
  refine jq jrnc ?_
  refine jq (jrfa 0 1 false) ?_
  refine seq_ent (weakH 1 ((s.fr.length - 1) * 2) (rowF 2 frF frD zr.reverse) rfl (by omega) (fun j hj => by rw [row_low (by omega)]; exact CEnt.refl _)) ?_
  refine jqm (jmstF 1 (wrB ⟨zr.map Prod.fst, s.d, s.k⟩ 1 2 go gd) ?_ ?_)
  · exact (fun j hj => by rcases j with _ | _ | _ | j <;> first | exact CEnt.osI (by simp; omega) | exact CEnt.refl _ | omega)
  refine seq_nil ?_
  refine code_ent (closeW n ⟨zr.map Prod.fst, s.d, s.k⟩ zr 0 1 2 3 rfl rfl rfl rfl rfl (by decide) (CEnt.osI rfl) (CEnt.osI rfl) (CEnt.refl _) (by simp; omega) (fun _ _ => CEnt.refl _) (Nat.le_refl _) (fun _ _ => CEnt.refl _)) ?_
  dsimp only [List.set_cons_zero, List.set_cons_succ, List.cons_append, List.nil_append, List.length_cons, List.length_nil, Nat.zero_add, Nat.reduceAdd]
  refine code_ent (freeze 5 rfl) ?_
  refine code_ent (thawP 3 (m := 2) rfl rfl (by decide)) ?_
  have hto := hs.tail hfr
  refine jcdB 5 (.rd 0 (.rd 1 (.rd 2 (.rd 3 (.one 4 .done))))) ?_
  refine jyq jrm ?_
  refine jyq (jrfa 0 1 false) ?_
  refine jyq jrdr ?_
  refine jyq (jrdrA 2) ?_
  refine jye (jecP (body08_ac x.1.1 x.1.2 hxk.1 (by omega)) ?_)
  refine jyd ?_
  show ASeq _ _ _ _ _ _
  refine jqm (jmcH 0 (putW_ac n ⟨zr.map Prod.fst, s.d, s.k⟩ x.1.1 (bodyF x.1) 0 hto (by rw [bodyF_len]; exact hxk.2)) ?_)
  rintro _ _ ⟨rfl, rfl⟩
  refine ⟨_, _, rfl, CEnt.refl _, ?_⟩
  refine seq_nil ?_
  refine jbn ?_
  have hP : closeV s = putW x.1.1 (bodyF x.1) 0 ⟨zr.map Prod.fst, s.d, s.k⟩ := by unfold closeV; rw [if_neg (by omega), hfr]
  rw [hP]
  exact end_own (.inr rfl) _ [_] [0] (by decide) rfl (res_0 rfl) ⟨rfl, rfl⟩
end Am
end Go.Proofs.YtgnjjenalebiaaaGreatDoor

/- Chapter 4 in the abstract walk: figures and their numbers. -/
namespace Go.Proofs.YtgnjjenalebiaaaGreatDoor
set_option linter.unusedVariables false
namespace Am
variable {gs : List Nat} [Ok2 gs]
open Go.RowKit
set_option maxRecDepth 100000

theorem wser_ac {gs : List Nat} (N : Nat) (hN : N ≤ 9223372036854775807) : ACp gs Tryz.prog 168 [.c (.int .i64 (N : Nat))] (strC (dec N)) := by
  have hdl := dec_len 18 N (by omega)
  refine ac_of 28 Tryz.func168 rfl rfl rfl (fun al w0 F0 St0 => ?_)
  refine jcr ?_
  refine jq jrm ?_
  refine seq_nil ?_
  refine jcs ?_
  refine jcr ?_
  refine jq jrm ?_
  refine jq jrc ?_
  refine seq_nil ?_
  refine jcc (fun h84 => ?_) fun h84 => ?_
  · exfalso; omega
  refine code_skip (jtn ?_)
  refine jcr ?_
  refine jq jrm ?_
  refine jq jrr ?_
  refine jq jra ?_
  refine jq (jrv .i64 .u8) ?_
  refine jqe (jebl 1 1 zr5 fun p1 => ?_)
  refine jq jrm ?_
  refine seq_nil ?_
  refine jcs ?_
  refine jcr ?_
  refine jq jrm ?_
  refine jq jrq ?_
  refine jq jrm ?_
  refine seq_nil ?_
  refine code_block ?_
  refine l_loop (α := Nat × List UInt8 × Option Nat) [0, 3, 13, 14, 15, 16, 17, 18, 19, 20, 21, 22, 23] (fun (m, o, g) => [(0, .c (.int .i64 (m : Nat))), (3, .os 0 g 0 o.length 1)]) (fun (m, o, g) => [(g, .blk o.length (byF o))]) (fun (m, o, g) => m ≤ N ∧ dec N = (if m = 0 then [] else dec m) ++ o.reverse) (fun (m, o, g) => m) ((N / 10, [fig (N % 10)], p1)) ?_ (fun _ => rfl) ?_ ?_ ?_
  · exact ⟨Nat.div_le_self _ _, dec_first N⟩
  · exact .cons (CEnt.int (by omega)) (.cons (CEnt.refl _) .nil)
  · exact .blk rfl (fun j hj => fl_by (l2 := [fig (N % 10)]) (.cons (CEnt.int (fig_int N).symm) .nil) j hj) .nil
  · rintro ⟨m, o, g⟩ ⟨(hm : m ≤ N), hd⟩
    have ho : o.length ≤ 19 := by have := congrArg List.length hd; simp only [List.length_append, List.length_reverse] at this; omega
    refine jcs ?_
    refine jcr ?_
    refine jq jrm ?_
    refine jq jrc ?_
    refine seq_nil ?_
    refine jcc (fun h88 => ?_) fun h88 => ?_
    rotate_left
    · refine code_exit (jte (jte (jbx (jtn ?_))))
      refine jcr ?_
      refine jq jrm ?_
      refine jqm (jmcH 0 (reverse8_ac _ o (by omega)) ?_)
      rintro _ _ ⟨rfl, rfl⟩
      refine ⟨_, _, rfl, CEnt.refl _, ?_⟩
      refine seq_nil ?_
      refine jcr ?_
      refine jq jrm ?_
      refine jqo jrbo ?_
      refine jq jrm ?_
      refine seq_nil ?_
      refine code_ret (jrt (hv := ?_))
      refine CEnt.strL ?_
      rw [hd, if_pos (by omega)]
      rfl
    refine code_skip (jtn ?_)
    refine jcs ?_
    refine code_block ?_
    refine jcg ?_
    refine jq jrm ?_
    refine jq jrm ?_
    refine jq jrr ?_
    refine jq jra ?_
    refine jq (jrv .i64 .u8) ?_
    refine jqe (jebl 1 1 zr5 fun p2 => ?_)
    refine jqm (m_appendB (l2 := [fig (m % 10)]) rfl rfl rfl (Nat.le_refl _) (fun _ _ => CEnt.refl _) (src_os rfl (.inl rfl) (by decide)) rfl (hh_bytes (.cons (CEnt.int ((fig_int m).symm)) .nil)) Tryz.underlying26 nu26 sz5 zr5 by5 rfl (by (simp; omega)) (leaf_fl rfl rfl) rfl rfl (fun p3 => ?_))
    refine jq jrm ?_
    refine seq_nil ?_
    refine jbn (jtn ?_)
    refine jcg ?_
    refine jq jrm ?_
    refine jq jrq ?_
    refine jq jrm ?_
    refine seq_nil ?_
    refine jtn ?_
    refine jlend ((m / 10, o ++ [fig (m % 10)], p3)) ?_ ?_ (h5 := ?_)
    · exact ⟨by omega, by rw [hd]; exact dec_step (by omega) o⟩
    · show m / 10 < m; omega
    · exact .cons (CEnt.int (by omega)) (.cons (CEnt.refl _) .nil)
theorem rser_ac {gs : List Nat} (N : Nat) (hN : N ≤ 9223372036854775807) : ACp gs Tryz.prog 137 [.c (.int .i64 (N : Nat))] (strC (dec N)) := by
  induction N using dec_ind with
  | h0 N h =>
    refine ac_of 20 Tryz.func137 rfl rfl rfl (fun al w0 F0 St0 => ?_)
    refine jcr ?_
    refine jq jrm ?_
    refine seq_nil ?_
    refine jcs ?_
    refine jcr ?_
    refine jq jrm ?_
    refine jq jrc ?_
    refine seq_nil ?_
    refine jcc (fun h42 => ?_) fun h42 => ?_
    rotate_left
    · exfalso; omega
    refine jcr ?_
    refine jq jrm ?_
    refine jq jra ?_
    refine jq (jrv .i64 .u8) ?_
    refine jqe (jebl 1 1 zr5 fun p1 => ?_)
    refine seq_ent (freeze 0 rfl) ?_
    refine seq_ent (thawBL 8 ([fig N]) rfl rfl rfl rfl (.cons (CEnt.int ((by rw [fig_toNat _ h]; omega))) .nil)) ?_
    refine jq jrbs ?_
    refine jq jrm ?_
    refine seq_nil ?_
    refine code_ret (jtr (jrt (hv := ?_)))
    refine CEnt.strL ?_
    exact (dec_small h).symm
  | h1 N h ih =>
    have hdl := dec_len 18 N (by omega)
    have hdl2 := dec_len 18 (N / 10) (by omega)
    refine ac_of 20 Tryz.func137 rfl rfl rfl (fun al w0 F0 St0 => ?_)
    refine jcr ?_
    refine jq jrm ?_
    refine seq_nil ?_
    refine jcs ?_
    refine jcr ?_
    refine jq jrm ?_
    refine jq jrc ?_
    refine seq_nil ?_
    refine jcc (fun h42 => ?_) fun h42 => ?_
    · exfalso; omega
    refine code_skip (jtn ?_)
    refine jcs ?_
    refine jcd (.rd 0 (.rd 1 (.rd 3 (.rd 4 (.rd 5 (.rd 6 (.two 2 (.one 7 (.rd 8 (.rd 9 (.rd 10 .done)))) 7 (.rd 8 (.one 2 (.rd 9 (.rd 10 .done))))))))))) ?_
    refine jyq jrm ?_
    refine jyq (rd_quo rfl rfl rfl (by (omega)) (by (omega)) (wrap_id (k := .i64) (by show _ ∧ _; (omega)))) ?_
    refine jyq jrm ?_
    refine jyq (rd_rem rfl rfl rfl (by (omega)) (by (omega))) ?_
    refine jyq (jra (hS := by show _ ∧ _; (omega))) ?_
    refine jyq (jrv .i64 .u8 (hS := by show _ ∧ _; (omega))) ?_
    refine jytwo ?_ ?_
    · refine jye (jecP (ih (by omega)) ?_ (ho := rfl) (he := (.cons (se rfl (CEnt.int (by omega))) .nil)))
      refine jye (jebl 1 1 zr5 fun p1 => ?_)
      refine x_ent (freeze 0 rfl) ?_
      refine x_ent (thawBL 17 ([fig (N % 10)]) rfl rfl rfl rfl (.cons (CEnt.int ((fig_int N).symm)) .nil)) ?_
      refine jyq jrbs ?_
      refine jyq (jras (hS := by ((simp only [List.length_cons, List.length_nil]; omega)))) ?_
      refine jyq jrm ?_
      refine jyd ?_
      refine jtn ?_
      refine code_ret (jrt (hv := ?_))
      refine CEnt.strL ?_
      exact (dec_big h).symm
    · refine jye (jebl 1 1 zr5 fun p1 => ?_)
      refine x_ent (freeze 0 rfl) ?_
      refine x_ent (thawBL 17 ([fig (N % 10)]) rfl rfl rfl rfl (.cons (CEnt.int ((fig_int N).symm)) .nil)) ?_
      refine jyq jrbs ?_
      refine jye (jecP (ih (by omega)) ?_ (ho := rfl) (he := (.cons (se rfl (CEnt.int (by omega))) .nil)))
      refine jyq (jras (hS := by ((simp only [List.length_cons, List.length_nil]; omega)))) ?_
      refine jyq jrm ?_
      refine jyd ?_
      refine jtn ?_
      refine code_ret (jrt (hv := ?_))
      refine CEnt.strL ?_
      exact (dec_big h).symm

/-! ### figures -/
def figR (l : List UInt8) : Nat × Bool := if (figM l).2 = 0 then ((figM l).1, true) else (0, false)
end Am
end Go.Proofs.YtgnjjenalebiaaaGreatDoor

/- Chapter 5: identifiers: right, septets, number, the iterators, Parse. -/
namespace Go.Proofs.YtgnjjenalebiaaaGreatDoor
set_option linter.unusedVariables false
namespace Am
variable {gs : List Nat} [Ok2 gs]
open Go.RowKit
set_option maxRecDepth 100000

theorem i64idx_ac {gs : List Nat} {g : FuncId} {n : Nat} {fv : Nat → CV} (hc : calleeB Tryz.prog g = true) (l : List (Int)) (p : (Int) → Bool) (hp : ∀ r, ACp gs Tryz.prog g ((fun z : Int => .c (.int .i64 z)) r :: (List.range n).map fv) (.c (.bool (p r)))) :
    ACp gs Tryz.prog 193 [isC l, .fn g n fv] (.c (.int .i64 (firstI p l))) := by
  refine ac_len 0 rfl fun hlen => ?_
  refine ac_of 19 Tryz.func193 rfl rfl rfl (fun al w0 F0 St0 => ?_)
  refine jcr ?_
  refine jq jrm ?_
  refine seq_nil ?_
  refine jcs ?_
  refine jcr ?_
  refine jq jrm ?_
  refine jq jrl ?_
  refine jq jrm ?_
  refine seq_nil ?_
  refine code_block ?_
  refine l_loop (α := Nat) [4, 5, 8, 9, 10, 11, 12, 13, 14, 15, 16, 17, 18] (fun i => [(8, .c (.int .i64 (i : Nat)))]) (fun _ => []) (fun i => i ≤ l.length ∧ ∀ j (hj : j < l.length), j < i → p l[j] = false) (fun i => l.length - i) (0) ?_ (fun _ => rfl) ?_ ?_ ?_
  · exact ⟨by omega, fun j _ hj => absurd hj (Nat.not_lt_zero j)⟩
  · (repeat (first | exact EntE.nil | refine EntE.cons (CEnt.refl _) ?_ | refine EntE.cons (CEnt.int (by omega)) ?_))
  · (repeat (first | exact HEnt.nil | refine HEnt.same ?_ | refine HEnt.blk rfl (fun j hj => by rcases j with _|_|_|_|_|_|_|_|j <;> first | exact CEnt.refl _ | exact CEnt.int (by omega) | omega) ?_))
  · rintro i ⟨hi, he⟩
    refine jcr ?_
    refine jq jrc ?_
    refine seq_nil ?_
    refine jcs ?_
    refine jcc (fun h108 => ?_) fun h108 => ?_
    rotate_left
    · refine code_exit (jte (jte (jbx (jtn ?_))))
      refine jcr ?_
      refine jq jrm ?_
      refine seq_nil ?_
      refine code_ret (jrt (hv := ?_))
      refine CEnt.int ?_
      exact (firstI_none fun j hj => he j hj (by omega)).symm
    refine code_skip (jtn ?_)
    refine jcs ?_
    refine code_block ?_
    refine jcr ?_
    refine jq jrm ?_
    refine jq jrm ?_
    refine seq_nil ?_
    refine jcr ?_
    refine jq jrm ?_
    refine jq jrm ?_
    refine jq jrm ?_
    refine jq jri ?_
    refine jq jrdr ?_
    refine jqe (e_callV rfl rfl (by assumption) (hp (l.getD i 0)) (entL_fn (CEnt.refl _) _) rfl rfl ?_)
    rintro _ _ ⟨rfl, rfl⟩
    refine seq_nil ?_
    refine jcc (fun h109 => ?_) fun h109 => ?_
    · refine jcr ?_
      refine jq jrm ?_
      refine jq jrm ?_
      refine seq_nil ?_
      refine code_ret (jbr (jtr (jtr (jbr (jtr (jrt (hv := ?_)))))))
      refine CEnt.int ?_
      have hlt : i < l.length := by omega
      exact (firstI_at i hlt (by simpa [List.getD, hlt] using h109) (fun j hj => he j (by omega) hj)).symm
    refine code_skip (jbn (jtn ?_))
    refine jcg ?_
    refine jq jra ?_
    refine jq jrm ?_
    refine seq_nil ?_
    refine jtn ?_
    refine jlend (i + 1) ?_ ?_
    · exact ⟨by omega, fun j hj hj1 => by
        by_cases e : j = i
        · subst e
          simpa [List.getD, hj] using h109
        · exact he j hj (by omega)⟩
    · omega
theorem i64has_ac {gs : List Nat} {g : FuncId} {n : Nat} {fv : Nat → CV} (hc : calleeB Tryz.prog g = true) (l : List (Int)) (p : (Int) → Bool) (hp : ∀ r, ACp gs Tryz.prog g ((fun z : Int => .c (.int .i64 z)) r :: (List.range n).map fv) (.c (.bool (p r)))) :
    ACp gs Tryz.prog 174 [isC l, .fn g n fv] (.c (.bool (l.any p))) := by
  refine ac_of 9 Tryz.func174 rfl rfl rfl (fun al w0 F0 St0 => ?_)
  refine jcr ?_
  refine jq jrm ?_
  refine seq_nil ?_
  refine jcr ?_
  refine jq jrm ?_
  refine jq jrm ?_
  refine jqe (jecP (i64idx_ac hc l p hp) ?_)
  refine jq jrc ?_
  refine jq jrm ?_
  refine seq_nil ?_
  refine code_ret (jrt (hv := ?_))
  refine CEnt.bool ?_
  exact firstI_any p l
def outA (n : Int) : Bool := decide (n < 0) || decide (2147483647 < n)
theorem out_ac {gs : List Nat} (n : Int) : ACp gs Tryz.prog 175 (.c (.int .i64 n) :: (List.range 0).map fun _ => .top) (.c (.bool (outA n))) := by
  refine ac_of 9 Tryz.func175 rfl rfl rfl (fun al w0 F0 St0 => ?_)
  refine jcr ?_
  refine jq jrm ?_
  refine seq_nil ?_
  refine jcr ?_
  refine jq jrm ?_
  refine jq jrc ?_
  refine jq jrm ?_
  refine jqsp 5 (fun g25 => ?_) fun g25 => ?_
  · refine jqs ?_
    refine jqs ?_
    refine jq jrpT ?_
    refine jq jrm ?_
    refine seq_nil ?_
    refine code_ret (jrt (hv := ?_))
    refine CEnt.bool ?_
    unfold outA
    (simp_all; done)
  refine jq jrm ?_
  refine jq jrc ?_
  refine jq jrpF ?_
  refine jq jrm ?_
  refine seq_nil ?_
  refine code_ret (jrt (hv := ?_))
  refine CEnt.bool ?_
  unfold outA
  (simp_all; omega)
theorem right_out (l : List Int) : (!l.any outA) = l.all (fun n => decide (0 ≤ n) && decide (n ≤ 2147483647)) := by
  rw [← all_not_any]
  congr 2
  funext n
  unfold outA
  by_cases h1 : n < 0 <;> by_cases h2 : 2147483647 < n <;> simp [h1, h2] <;> omega
theorem oright_ac {gs : List Nat} (l : List Int) : ACp gs Tryz.prog 160 [isC l] (.c (.bool (rightA l))) := by
  refine ac_len 0 rfl fun hlen => ?_
  refine ac_of 34 Tryz.func160 rfl rfl rfl (fun al w0 F0 St0 => ?_)
  refine jcr ?_
  refine jq jrm ?_
  refine seq_nil ?_
  refine jcs ?_
  refine jcr ?_
  refine jq jrm ?_
  refine jq jrl ?_
  refine jq jrc ?_
  refine jq jrm ?_
  refine jqsp 7 (fun g22 => ?_) fun g22 => ?_
  · refine jqs ?_
    refine jqs ?_
    refine jqs ?_
    refine jq jrpT ?_
    refine seq_nil ?_
    refine jcT ?_
    refine jcr ?_
    refine jq jrm ?_
    refine seq_nil ?_
    refine code_ret (jtr (jrt (hv := ?_)))
    refine CEnt.bool ?_
    unfold rightA
    rw [← right_out]
    (simp_all; omega)
  refine jq jrm ?_
  refine jq jrl ?_
  refine jq jrc ?_
  refine jq jrpF ?_
  refine seq_nil ?_
  refine jcc (fun h22 => ?_) fun h22 => ?_
  · refine jcr ?_
    refine jq jrm ?_
    refine seq_nil ?_
    refine code_ret (jtr (jrt (hv := ?_)))
    refine CEnt.bool ?_
    unfold rightA
    rw [← right_out]
    (simp_all; omega)
  refine code_skip (jtn ?_)
  refine jcr ?_
  refine jq jrm ?_
  refine jqe (jecP (i64has_ac (n := 0) (fv := fun _ => .top) (by kernel_rfl) l outA out_ac) ?_ (ho := rfl) (he := (.cons (se rfl (CEnt.refl _)) (.cons (se rfl CEnt.fn0) .nil))))
  refine jq jrm ?_
  refine seq_nil ?_
  refine jcr ?_
  refine jq jrm ?_
  refine jq jrn ?_
  refine jq jrm ?_
  refine jqsp 16 (fun g26 => ?_) fun g26 => ?_
  rotate_left
  · refine jqs ?_
    refine jqs ?_
    refine jqs ?_
    refine jqs ?_
    refine jq jrpF ?_
    refine jq jrm ?_
    refine jqs ?_
    refine jqs ?_
    refine jqs ?_
    refine jqs ?_
    refine jqs ?_
    refine jqs ?_
    refine jqs ?_
    refine jqs ?_
    refine jqs ?_
    refine jqs ?_
    refine jq jrpF ?_
    refine jq jrm ?_
    refine seq_nil ?_
    refine code_ret (jrt (hv := ?_))
    refine CEnt.bool ?_
    unfold rightA
    rw [← right_out]
    grind
  refine jq jrm ?_
  refine jq (jri (i := 0)) ?_
  refine jq jrdr ?_
  refine jq jrc ?_
  refine jq jrpT ?_
  refine jq jrm ?_
  refine jqsp 22 (fun g26_2 => ?_) fun g26_2 => ?_
  rotate_left
  · refine jqs ?_
    refine jqs ?_
    refine jqs ?_
    refine jqs ?_
    refine jqs ?_
    refine jqs ?_
    refine jqs ?_
    refine jqs ?_
    refine jqs ?_
    refine jqs ?_
    refine jq jrpF ?_
    refine jq jrm ?_
    refine seq_nil ?_
    refine code_ret (jrt (hv := ?_))
    refine CEnt.bool ?_
    unfold rightA
    rw [← right_out]
    (simp_all; omega)
  refine jq jrm ?_
  refine jq (jri (i := 0)) ?_
  refine jq jrdr ?_
  refine jq jrc ?_
  refine jq jrm ?_
  refine jqsp 27 (fun g26_3 => ?_) fun g26_3 => ?_
  · refine jqs ?_
    refine jqs ?_
    refine jqs ?_
    refine jqs ?_
    refine jq jrpT ?_
    refine jq jrpT ?_
    refine jq jrm ?_
    refine seq_nil ?_
    refine code_ret (jrt (hv := ?_))
    refine CEnt.bool ?_
    unfold rightA
    rw [← right_out]
    (simp_all; omega)
  refine jq jrm ?_
  refine jq (jri (i := 1)) ?_
  refine jq jrdr ?_
  refine jq jrc ?_
  refine jq jrpF ?_
  refine jq jrpT ?_
  refine jq jrm ?_
  refine seq_nil ?_
  refine code_ret (jrt (hv := ?_))
  refine CEnt.bool ?_
  unfold rightA
  rw [← right_out]
  (simp_all; omega)
end Am
end Go.Proofs.YtgnjjenalebiaaaGreatDoor

/- Chapter 5: septets, number; the parts of a text, one by one; Parse. -/
namespace Go.Proofs.YtgnjjenalebiaaaGreatDoor
set_option linter.unusedVariables false
namespace Am
variable {gs : List Nat} [Ok2 gs]
open Go.RowKit
set_option maxRecDepth 100000

/-! ### numbers of seven bits a byte -/
theorem snoc7 {l : List UInt8} {i : Nat} (h : i < l.length) : valSO (l.take (i + 1)) = valSO (l.take i) * 128 + (l.getD i 0).toNat % 128 := by
  rw [List.take_succ_eq_append_getElem h, valSO_snoc]
  simp [List.getD, h]
theorem valS_le {l : List UInt8} (i : Nat) : valSO (l.take i) ≤ valSO l := by
  have key : ∀ (r : List UInt8) (a : List UInt8), valSO a ≤ valSO (a ++ r) := by
    intro r
    induction r with
    | nil => simp
    | cons c r ih =>
      intro a
      have h1 := ih (a ++ [c])
      rw [valSO_snoc] at h1
      rw [show a ++ c :: r = a ++ [c] ++ r by simp]
      have : valSO a ≤ valSO a * 128 := by omega
      omega
  have := key (l.drop i) (l.take i)
  rwa [List.take_append_drop] at this
theorem numM_pos {r : List UInt8} {most : Nat} {x : Nat × Nat} (h : numM r most = x) : (numM r most).1 = x.1 ∧ (numM r most).2 = x.2 := by rw [h]; exact ⟨rfl, rfl⟩
theorem number_ac {gs : List Nat} [OkG gs] (r : List UInt8) (most : Nat) (hr : 0 < r.length) (hm : most ≤ 9999999999) : ACp gs Tryz.prog 150 [bsC r, .c (.int .i64 (most : Nat))] (.tup 2 (fl [.c (.int .i64 ((numM r most).1 : Nat)), .err (numM r most).2])) := by
  refine ac_len 0 rfl fun hlen => ?_
  refine ac_of 42 Tryz.func150 rfl rfl rfl (fun al w0 F0 St0 => ?_)
  refine jcr ?_
  refine jq jrm ?_
  refine jq jrm ?_
  refine seq_nil ?_
  refine jcs ?_
  refine code_block ?_
  refine jcr ?_
  refine jq jrm ?_
  refine jq jrm ?_
  refine jq jrl ?_
  refine jq jra ?_
  refine jq (jri (i := (r.length - 1)) (hz := by omega)) ?_
  refine jq jrdr ?_
  refine jq jrc ?_
  refine jq jrm ?_
  refine seq_nil ?_
  refine jcc (fun h99 => ?_) fun h99 => ?_
  · refine jcs ?_
    refine jcd (.rd 0 (.rd 1 (.rd 2 .done))) ?_
    refine jyq (jrde 1) ?_
    refine jyq jrm ?_
    refine jyq jrm ?_
    refine jyd ?_
    refine jtn ?_
    refine code_ret (jbr (jtr (jrt (hv := ?_))))
    have hb := numM_pos (r := r) (most := most) (x := (0, 2)) (by unfold numM; rw [if_pos (by omega)])
    exact CEnt.tup2 (CEnt.int (by rw [hb.1]; rfl)) (CEnt.errN hb.2)
  refine jcr ?_
  refine jq jrm ?_
  refine jq (jri (i := 0)) ?_
  refine jq jrdr ?_
  refine jq jrc ?_
  refine jq jrm ?_
  refine seq_nil ?_
  refine jcc (fun h101 => ?_) fun h101 => ?_
  · refine jcs ?_
    refine jcd (.rd 0 (.rd 1 (.rd 2 .done))) ?_
    refine jyq (jrde 3) ?_
    refine jyq jrm ?_
    refine jyq jrm ?_
    refine jyd ?_
    refine jtn ?_
    refine code_ret (jbr (jtr (jrt (hv := ?_))))
    have hb := numM_pos (r := r) (most := most) (x := (0, 4)) (by unfold numM; rw [if_neg (by omega), if_pos (by omega)])
    exact CEnt.tup2 (CEnt.int (by rw [hb.1]; rfl)) (CEnt.errN hb.2)
  refine code_skip (jbn (jtn ?_))
  refine jcr ?_
  refine jq jrm ?_
  refine seq_nil ?_
  refine jcs ?_
  refine jcr ?_
  refine jq jrm ?_
  refine jq jrl ?_
  refine jq jrm ?_
  refine seq_nil ?_
  refine code_block ?_
  refine l_loop (α := Nat) [4, 5, 6, 8, 26, 27, 28, 29, 30, 31, 32, 33, 34, 35, 36, 37, 38, 39, 40] (fun i => [(6, .c (.int .i64 (valSO (r.take i) : Nat))), (26, .c (.int .i64 (i : Nat)))]) (fun _ => []) (fun i => i ≤ r.length ∧ valSO (r.take i) ≤ most) (fun i => r.length - i) (0) ?_ (fun _ => rfl) ?_ ?_ ?_
  · exact ⟨Nat.zero_le _, by simp [valSO]⟩
  · (repeat (first | exact EntE.nil | refine EntE.cons (CEnt.refl _) ?_ | refine EntE.cons (CEnt.int (by omega)) ?_))
  · (repeat (first | exact HEnt.nil | refine HEnt.same ?_ | refine HEnt.blk rfl (fun j hj => by rcases j with _|_|_|_|_|_|_|_|j <;> first | exact CEnt.refl _ | exact CEnt.int (by omega) | omega) ?_))
  · rintro i ⟨(hi : i ≤ r.length), hv⟩
    refine jcr ?_
    refine jq jrc ?_
    refine seq_nil ?_
    refine jcs ?_
    refine jcc (fun h105 => ?_) fun h105 => ?_
    rotate_left
    · refine code_exit (jte (jte (jbx (jtn ?_))))
      refine jcr ?_
      refine jq jrm ?_
      refine jq jrm ?_
      refine jq jrm ?_
      refine seq_nil ?_
      refine code_ret (jrt (hv := ?_))
      have hi2 : i = r.length := by omega
      rw [hi2, List.take_length] at hv
      have hb := numM_pos (r := r) (most := most) (x := (valSO r, 0)) (by unfold numM; rw [if_neg (by omega), if_neg (by omega), if_neg (by omega)])
      exact CEnt.tup2 (CEnt.int (by rw [hb.1, hi2, List.take_length])) (CEnt.errN hb.2)
    refine code_skip (jtn ?_)
    refine jcs ?_
    refine code_block ?_
    refine jcr ?_
    refine jq jri ?_
    refine jq jrdr ?_
    refine jq jrm ?_
    refine seq_nil ?_
    refine jcr ?_
    refine jq jrm ?_
    refine jq jra ?_
    refine jq jrm ?_
    refine jq jrr ?_
    refine jq (jrv .u8 .i64) ?_
    refine jq jra ?_
    refine jq jrm ?_
    refine seq_nil ?_
    refine jcr ?_
    refine jq jrm ?_
    refine jq jrm ?_
    refine jq jrc ?_
    refine seq_nil ?_
    refine jcc (fun h107 => ?_) fun h107 => ?_
    rotate_left
    · refine code_skip (jbn (jtn ?_))
      refine jcg ?_
      refine jq jra ?_
      refine jq jrm ?_
      refine seq_nil ?_
      refine jtn ?_
      refine jlend (i + 1) ?_ ?_ (h5 := ?_)
      · exact ⟨by omega, by rw [snoc7 (by omega)]; omega⟩
      · show r.length - (i + 1) < r.length - i; omega
      · exact .cons (CEnt.int (by rw [snoc7 (by omega)]; omega)) (.cons (CEnt.int (by omega)) .nil)
    refine jcs ?_
    refine jcd (.rd 0 (.rd 1 (.rd 2 .done))) ?_
    refine jyq (jrde 0) ?_
    refine jyq jrm ?_
    refine jyq jrm ?_
    refine jyd ?_
    refine jtn ?_
    refine code_ret (jbr (jtr (jtr (jbr (jtr (jrt (hv := ?_)))))))
    have h9 := snoc7 (l := r) (i := i) (by omega)
    have h8 := valS_le (l := r) (i + 1)
    have hb := numM_pos (r := r) (most := most) (x := (0, 1)) (by unfold numM; rw [if_neg (by omega), if_neg (by omega), if_pos (by omega)])
    exact CEnt.tup2 (CEnt.int (by rw [hb.1]; rfl)) (CEnt.errN hb.2)

/-! ### the parts of a text -/
/-- what strings.splitSeq hands out: the closure, and the box of what is left -/
def seqF (f : FuncId) (c : UInt8) (g : Option Nat) : CV := .fn f 3 (fl [.rp 1 fun _ => strC [c], .op 0 g 0, .rp 1 fun _ => .c (.int .i64 0)])
theorem drop_getD {α : Type} {l : List α} {k : Nat} {d x : α} {r : List α} (h : l.drop k = x :: r) : l.getD k d = x ∧ l.drop (k + 1) = r := by
  have h1 : l[k]? = some x := by
    have := congrArg (fun m => m[0]?) h
    simpa using this
  exact ⟨by simp [List.getD, h1], by rw [← List.drop_drop, h]; rfl⟩
end Am
end Go.Proofs.YtgnjjenalebiaaaGreatDoor

/- Chapter 5: Parse. -/
namespace Go.Proofs.YtgnjjenalebiaaaGreatDoor
set_option linter.unusedVariables false
namespace Am
variable {gs : List Nat} [Ok2 gs]
open Go.RowKit
set_option maxRecDepth 100000

theorem CEnt.nilO {i k : Nat} : CEnt (.c (.slice none 0 0)) (.os i none 0 0 k) := fun al St w v h => ⟨rfl, h⟩
theorem take_get {α : Type} {l : List α} {k : Nat} (d : α) (h : k < l.length) : l.take (k + 1) = l.take k ++ [l.getD k d] := by
  rw [List.take_succ_eq_append_getElem h]
  simp [List.getD, h]
theorem getD_mem' {α : Type} {l : List α} {k : Nat} (d : α) (h : k < l.length) : l.getD k d ∈ l := by
  simp [List.getD, h]
theorem all_false {α : Type} {p : α → Bool} {l : List α} {k : Nat} (d : α) (h : k < l.length) (hp : p (l.getD k d) = false) : l.all p = false := by
  cases e : l.all p with
  | false => rfl
  | true =>
    have := List.all_eq_true.1 e _ (getD_mem' d h)
    rw [hp] at this; cases this
end Am
end Go.Proofs.YtgnjjenalebiaaaGreatDoor

/- Chapter 5: order, equality; the reference's Parse; Put; the law's example. -/
namespace Go.Proofs.YtgnjjenalebiaaaGreatDoor
set_option linter.unusedVariables false
namespace Am
variable {gs : List Nat} [Ok2 gs]
open Go.RowKit
set_option maxRecDepth 100000

/-! ### lists of numbers -/
def cmpI (a b : Int) : Int := if a < b then -1 else if b < a then 1 else 0
/-! ### Compare, Under -/
def underM (s t : List UInt8) : Bool := decide ((parseM s).2 = 0) && decide ((parseM t).2 = 0) && underA (parseM s).1 (parseM t).1
end Am
end Go.Proofs.YtgnjjenalebiaaaGreatDoor

/- Chapter 5: Put; the reference's Right, Split, Parse; the law's example; OidsOrder. -/
namespace Go.Proofs.YtgnjjenalebiaaaGreatDoor
set_option linter.unusedVariables false
namespace Am
variable {gs : List Nat} [Ok2 gs]
open Go.RowKit
set_option maxRecDepth 100000

end Am
end Go.Proofs.YtgnjjenalebiaaaGreatDoor

/- From a row's list of sentinels ('laid') to what the walks ask: each variable's pointer, no two the same. -/
namespace Go.Proofs.YtgnjjenalebiaaaGreatDoor
set_option linter.unusedVariables false
open Go.RowKit Go.ChangeShapes

def isErr (x : String × DataW Unit) : Bool := match x.2 with
  | .iface nm (.ptr (.agg [.lit (.string _)])) => nm == "*errors.errorString"
  | _ => false
theorem isErr_out {x : String × DataW Unit} (h : isErr x = true) : ∃ text, x.2 = .iface "*errors.errorString" (.ptr (.agg [.lit (.string text)])) := by
  obtain ⟨n, d⟩ := x
  unfold isErr at h
  dsimp only at h ⊢
  split at h
  · exact ⟨_, by rw [eq_of_beq h]⟩
  · cases h

theorem laid_list {P : Program} {W : World} {nm : String} {ti tp te ts : TypeId} {ms : Array (String × TypeId)} {f : Field}
    (hi : P.underlying ti = some (.interface ms)) (hrow : ∀ u, P.typeName? 3 u = some nm → u = tp)
    (hp : P.underlying tp = some (.pointer te)) (he : P.underlying te = some (.struct #[f])) (hft : f.type = ts) (hfo : f.offset = 0) (hs : P.underlying ts = some .string) (hc : P.cellsOf te = 1) (hcs : P.cellsOf ts = 1) :
    ∀ (L : List (String × DataW Unit)) (ps : List MemPlace), DataW.LaidVars P W L ps →
      (∀ b off, MemPlace.cell b off ∈ ps → (∃ c t, W.heap[b]? = some (.cells c t (0, 0))) ∧ ∀ u v, W.cell? ⟨b, off, none⟩ = some (.iface u v) → Value.okWide P W .any 0 u v) → ps.Nodup →
      (∀ x ∈ L, isErr x = true → (∃ text, x.2 = .iface nm (.ptr (.agg [.lit (.string text)]))) ∧ ∀ g, P.globalNamed x.1 = some g → (P.globals[g]?).map (·.type) = some ti) →
      ∃ al : List Addr, al.length = (L.filter isErr).length ∧ al.Nodup ∧ (∀ a ∈ al, a.spot = none ∧ MemPlace.cell a.block a.off ∈ ps) ∧
        ∀ (i : Nat) (x : String × DataW Unit) (a : Addr), (L.filter isErr)[i]? = some x → al[i]? = some a → ∃ g, P.globalNamed x.1 = some g ∧ W.cell? ⟨g, 0, none⟩ = some (.iface tp (.pointer (some a)))
  | [], ps, _, _, _, _ => ⟨[], rfl, List.nodup_nil, by simp, by simp⟩
  | (n, d) :: r, ps, hv, hrows, hnd, hL => by
    obtain ⟨g, t, cs, fuel, p, q, hg, ht, hvar, hd, hrest, rfl⟩ := hv
    have hnq : q.Nodup := List.Nodup.sublist (List.sublist_append_right _ _) hnd
    obtain ⟨al, h1, h2, h3, h4⟩ := laid_list hi hrow hp he hft hfo hs hc hcs r q hrest (fun b off hm => hrows b off (List.mem_append_right _ hm)) hnq (fun x hx => hL x (List.mem_cons_of_mem _ hx))
    by_cases hE : isErr (n, d) = true
    case neg =>
      have hE : isErr (n, d) = false := by simpa using hE
      rw [List.filter_cons_of_neg (by simp [hE])]
      exact ⟨al, h1, h2, fun a ha => ⟨(h3 a ha).1, List.mem_append_right _ (h3 a ha).2⟩, h4⟩
    obtain ⟨⟨text, hx⟩, hty⟩ := hL (n, d) (List.mem_cons_self ..) hE
    rw [List.filter_cons_of_pos hE]
    simp only at hx
    subst hx
    obtain rfl := Option.some.inj ((hty g hg).symm.trans ht)
    obtain ⟨l⟩ := cs
    have hcell0 : ∀ v, l = [v] → W.cell? ⟨g, 0, none⟩ = some v := fun v e => by
      subst e
      simpa using World.var?_cell hg hvar 0
    obtain ⟨a, s, rfl, ha, _, _, rfl⟩ := errorString_of_trod hi hrow hp he hft hfo hs hc hcs hd (fun u v e => by
      simp only at e
      subst e
      exact (hrows g 0 (by simp [MemPlace.row])).2 u v (hcell0 _ rfl))
    have hsp : a.spot = none := World.cell?_spot ha
    have hpl : MemPlace.cell a.block a.off ∈ MemPlace.row a 1 := by simp [MemPlace.row]
    refine ⟨a :: al, by simp [h1], List.nodup_cons.2 ⟨fun hm => ?_, h2⟩, ?_, ?_⟩
    · have hq := (h3 a hm).2
      have := (List.nodup_append.1 hnd).2.2 (MemPlace.cell a.block a.off) (List.mem_append_right _ hpl) _ hq
      exact this rfl
    · intro b hb
      rcases List.mem_cons.1 hb with rfl | hb
      · exact ⟨hsp, List.mem_append_left _ (List.mem_append_right _ hpl)⟩
      · exact ⟨(h3 b hb).1, List.mem_append_right _ (h3 b hb).2⟩
    · intro i x b hi' hb
      match i, hi', hb with
      | 0, hi', hb =>
        simp only [List.getElem?_cons_zero, Option.some.injEq] at hi' hb
        subst hi'
        subst hb
        exact ⟨g, hg, hcell0 _ rfl⟩
      | i + 1, hi', hb => exact h4 i x b (by simpa using hi') (by simpa using hb)

theorem starRow (u : TypeId) (h : Tryz.prog.typeName? 3 u = some "*errors.errorString") : u = 246 := by
  have e : "*errors.errorString" = "*" ++ "errors.errorString" := by decide +kernel
  exact typeName_ptr_named (nm := "errors.errorString") (by rw [← e]; kernel_rfl) (by kernel_rfl) (by decide) u (by rw [← e]; exact h)
theorem cellsErr : Tryz.prog.cellsOf 268 = 1 := by kernel_rfl
theorem cellsStr : Tryz.prog.cellsOf 9 = 1 := by kernel_rfl

/-- what a row's list of sentinels gives -/
theorem sent_of_laid {W : World} {L : List (String × DataW Unit)} {g0 : List Nat} (h : laidMetH Tryz.prog L W) (h1 : (L.all fun x => x.2.handleName?.isNone) = true)
    (h3 : ((L.filter isErr).map fun x => Tryz.prog.globalNamed x.1) = (errG g0).map some) (h4 : ((errG g0).map fun g => (Tryz.prog.globals[g]?).map (·.type)) = List.replicate (errG g0).length (some 28))
    (ht : tabA ∈ lst g0 → tabB ∈ lst g0 → Lib.Utf8Tabs tabA tabB W) (hAB : ((lst g0).contains tabA) = ((lst g0).contains tabB)) : ∃ al, SentL W g0 al := by
  rw [MakeChecks.laidMetH_plain _ _ _ h1] at h
  obtain ⟨ps, hv, hnd, hrows⟩ := h
  have hlen : (L.filter isErr).length = (errG g0).length := by simpa using congrArg List.length h3
  have hgl : ∀ (i : Nat) (x : String × DataW Unit), (L.filter isErr)[i]? = some x → ∃ g, (errG g0)[i]? = some g ∧ Tryz.prog.globalNamed x.1 = some g := by
    intro i x hx
    have := congrArg (fun l => l[i]?) h3
    simp only [List.getElem?_map, hx, Option.map_some] at this
    obtain ⟨g, hg, e⟩ := Option.map_eq_some_iff.1 this.symm
    exact ⟨g, hg, e.symm⟩
  obtain ⟨al, l1, l2, l3, l4⟩ := laid_list Tryz.underlying28 starRow Tryz.underlying246 Tryz.underlying268 rfl rfl Tryz.underlying9 cellsErr cellsStr L ps hv hrows hnd
    (fun x hx hE => ⟨isErr_out hE, fun g hg => by
      obtain ⟨i, hi⟩ := List.mem_iff_getElem?.1 (List.mem_filter.2 ⟨hx, hE⟩)
      obtain ⟨g', hg', e⟩ := hgl i x hi
      obtain rfl := Option.some.inj (e.symm.trans hg)
      have := congrArg (fun l => l[i]?) h4
      simp only [List.getElem?_map, hg', Option.map_some] at this
      have hlt : i < (errG g0).length := (List.getElem?_eq_some_iff.1 hg').1
      rw [List.getElem?_replicate, if_pos hlt] at this
      exact Option.some.inj this⟩)
  have hvar : ∀ i g, (errG g0)[i]? = some g → W.cell? ⟨g, 0, none⟩ = some (ev al (i + 1)) := by
    intro i g hg
    have hlt : i < (errG g0).length := (List.getElem?_eq_some_iff.1 hg).1
    obtain ⟨x, hx⟩ : ∃ x, (L.filter isErr)[i]? = some x := ⟨(L.filter isErr)[i], List.getElem?_eq_getElem (by omega)⟩
    obtain ⟨a, ha⟩ : ∃ a, al[i]? = some a := ⟨al[i], List.getElem?_eq_getElem (by omega)⟩
    obtain ⟨g', hg', e⟩ := hgl i x hx
    obtain rfl := Option.some.inj (hg.symm.trans hg')
    obtain ⟨g2, e2, hc⟩ := l4 i x a hx ha
    obtain rfl := Option.some.inj (e.symm.trans e2)
    rw [hc]
    simp [ev, ha]
  refine ⟨al, by omega, fun i j g g' hi _ hj _ e => (List.getElem?_inj (by have := (List.getElem?_eq_some_iff.1 hi).1; omega) l2).1 e, fun i g hi _ => hvar i g hi, fun a ha => (hrows a.block a.off (l3 a ha).2).1, ht, fun g hg => ?_⟩
  by_cases hT : (Nat.beq g tabA || Nat.beq g tabB) = true
  · have hc : tabA ∈ lst g0 ∧ tabB ∈ lst g0 := by
      rcases Bool.or_eq_true_iff.1 hT with e | e
      · have := Nat.eq_of_beq_eq_true e
        subst this
        have h5 : (lst g0).contains tabA = true := List.contains_iff_mem.2 hg
        exact ⟨hg, List.contains_iff_mem.1 (hAB ▸ h5)⟩
      · have := Nat.eq_of_beq_eq_true e
        subst this
        have h5 : (lst g0).contains tabB = true := List.contains_iff_mem.2 hg
        exact ⟨List.contains_iff_mem.1 (hAB.symm ▸ h5), hg⟩
    have hU := ht hc.1 hc.2
    rcases Bool.or_eq_true_iff.1 hT with e | e
    · have := Nat.eq_of_beq_eq_true e
      subst this
      exact World.block_lt_of_cell? W _ (hU.1 0 (by decide))
    · have := Nat.eq_of_beq_eq_true e
      subst this
      exact World.block_lt_of_cell? W _ (hU.2 0 (by decide)).1
  · have hm : g ∈ errG g0 := List.mem_filter.2 ⟨(lst_mem.1 hg).1, by
      cases hb : (Nat.beq g tabA || Nat.beq g tabB) with
      | true => exact absurd hb hT
      | false => rfl⟩
    obtain ⟨i, hi⟩ := List.mem_iff_getElem?.1 hm
    exact World.block_lt_of_cell? W _ (hvar i g hi)
/-! ### arguments that come in -/
/-- a slice of bytes that came in -/
theorem bs_of_trod {P : Program} {W : World} {T E : TypeId} {ao : Option Addr} {len cap : Nat} {H : Type} {enc : TypeId × Value → H} {d : DataW H} {ps : List MemPlace}
    (hT : P.underlying T = some (.slice E)) (hE : P.underlying E = some (.int .u8)) (hc : P.cellsOf E = 1)
    (h : DataW.Trod enc P W 0 (fun _ => true) true T (.slice ao len cap) d ps) : ∃ l, Bs W (.slice ao len cap) l := by
  obtain ⟨fuel, hf⟩ := h
  rcases open_ints hT hE hc hf with ⟨hcs, _⟩ | ⟨x, l, c, zs, hcs, _, hl, hm, hz, _, hcell, hwz⟩
  · simp [Value.cells] at hcs
    obtain ⟨rfl, rfl, rfl⟩ := hcs
    exact ⟨[], Bs.nil W⟩
  · simp [Value.cells] at hcs
    obtain ⟨rfl, rfl, rfl⟩ := hcs
    have hz' : zs.length = cap := by simpa using hz
    have hlen : ((zs.take len).map fun z => UInt8.ofNat z.toNat).length = len := by simp; omega
    have key : ∀ i, i < len → W.cell? (x.add i) = some (.int .u8 ((((zs.take len).map fun z => UInt8.ofNat z.toNat).getD i 0).toNat : Nat)) := by
      intro i hi
      rw [hcell i (by omega)]
      have hzi : zs[i]? = some (zs.getD i 0) := by simp [List.getD, show i < zs.length by omega]
      have hwf := hwz (zs.getD i 0) (List.mem_of_getElem? hzi)
      have hb := bounds_u8 hwf
      have e : ((zs.take len).map fun z => UInt8.ofNat z.toNat).getD i 0 = UInt8.ofNat (zs.getD i 0).toNat := by
        simp [List.getD, List.getElem?_take, hi, show i < zs.length by omega]
      rw [e, UInt8.toNat_ofNat']
      congr 2
      omega
    obtain ⟨b, o, sp⟩ := x
    have hm' : cap ≤ 9223372036854775807 := by unfold maxLen at hm; omega
    by_cases h0 : len = 0
    · subst h0
      exact ⟨[], _, cap, rfl, by simp, hm', by simp, fun y hy => by
        cases hy
        exact ⟨fun h => by simp at h, fun i hi => by simp at hi⟩⟩
    · have hsp : sp = none := by
        have := World.cell?_spot (key 0 (by omega))
        simpa [Addr.add] using this
      subst hsp
      refine ⟨(zs.take len).map fun z => UInt8.ofNat z.toNat, ?_⟩
      have := Bs.of_cells (w := W) (b := b) (o := o) (cap := cap) (l := (zs.take len).map fun z => UInt8.ofNat z.toNat) (by omega) hm' (fun i hi => by
        have := key i (by omega)
        rwa [Addr.add_lit] at this)
      rwa [hlen] at this
end Go.Proofs.YtgnjjenalebiaaaGreatDoor

/- The tables of unicode/utf8 out of a row's list, at a seat that has the tables' types and variables. -/
namespace Go.Proofs.YtgnjjenalebiaaaGreatDoor
set_option linter.unusedVariables false
open Go.RowKit Go.ChangeShapes
def tabRen : Go.Shelf.Ren := ⟨fun n => n, fun | 5 => 5 | 119 => 224 | 138 => 226 | 139 => 227 | n => n, fun | 3 => 28 | 4 => 29 | n => n⟩
theorem tabTypes : U8Types Tryz.prog tabRen where
  t5 := Tryz.underlying5
  t119 := Tryz.underlying224
  t138 := Tryz.underlying226
  t139 := Tryz.underlying227
theorem tabExtra : U8Extra Tryz.prog tabRen where
  n3 := by kernel_rfl
  n4 := by kernel_rfl
  y3 := by kernel_rfl
  y4 := by kernel_rfl
  c5 := by kernel_rfl
  c119 := by kernel_rfl
  c138 := by kernel_rfl
theorem tabs_of_laid {W : World} {L : List (String × DataW Unit)} (h : laidMetH Tryz.prog L W) (h1 : (L.all fun x => x.2.handleName?.isNone) = true) {i j : Nat} (hi : L[i]? = some ("unicode/utf8.first", Lib.firstData)) (hj : L[j]? = some ("unicode/utf8.acceptRanges", Lib.acceptData)) : Lib.Utf8Tabs tabA tabB W := by
  rw [MakeChecks.laidMetH_plain _ _ _ h1] at h
  obtain ⟨ps, hv, hnd, hrows⟩ := h
  exact utf8Tabs_of_readsT (ρ := tabRen) tabTypes tabExtra (Lib.LaidVars_reads hv _ _ (List.mem_of_getElem? hi)) (Lib.LaidVars_reads hv _ _ (List.mem_of_getElem? hj))
end Go.Proofs.YtgnjjenalebiaaaGreatDoor

/- utf8.ValidString at this seat: the kit's contract, laid here; the tables of unicode/utf8 out of a row's list. -/
namespace Go.Proofs.YtgnjjenalebiaaaGreatDoor
set_option linter.unusedVariables false
open Go.RowKit Go.ChangeShapes
def u8ren : Go.Shelf.Ren := ⟨fun | 196 => 172 | 259 => 189 | n => n, fun | 0 => 0 | 3 => 3 | 4 => 4 | 5 => 5 | 9 => 9 | 12 => 12 | 46 => 77 | 53 => 165 | 119 => 224 | 138 => 226 | 139 => 227 | n => n, fun | 3 => 28 | 4 => 29 | n => n⟩
theorem u8lays : Go.Proofs.Lays.n196 Tryz.prog u8ren := {
  mixed := by kernel_rfl
  f196 := Tryz.func172.trans (congrArg some (by kernel_rfl))
  f259 := Tryz.func189.trans (congrArg some (by kernel_rfl))
  t0 := Tryz.underlying0
  a0 := Tryz.isAgg0
  z0 := Tryz.sizeOf0
  v0 := Tryz.zeroValue0
  t3 := Tryz.underlying3
  a3 := Tryz.isAgg3
  z3 := Tryz.sizeOf3
  v3 := Tryz.zeroValue3
  t4 := Tryz.underlying4
  a4 := Tryz.isAgg4
  z4 := Tryz.sizeOf4
  v4 := Tryz.zeroValue4
  t5 := Tryz.underlying5
  a5 := Tryz.isAgg5
  z5 := Tryz.sizeOf5
  v5 := Tryz.zeroValue5
  t9 := Tryz.underlying9
  a9 := Tryz.isAgg9
  z9 := Tryz.sizeOf9
  v9 := Tryz.zeroValue9
  t12 := Tryz.underlying12
  a12 := Tryz.isAgg12
  z12 := Tryz.sizeOf12
  v12 := Tryz.zeroValue12
  t46 := Tryz.underlying77
  a46 := Tryz.isAgg77
  z46 := Tryz.sizeOf77
  v46 := Tryz.zeroValue77
  t53 := Tryz.underlying165
  a53 := Tryz.isAgg165
  z53 := Tryz.sizeOf165
  v53 := Tryz.zeroValue165
  t119 := Tryz.underlying224
  a119 := Tryz.isAgg224
  z119 := Tryz.sizeOf224
  t138 := Tryz.underlying226
  a138 := Tryz.isAgg226
  z138 := Tryz.sizeOf226
  v138 := Tryz.zeroValue226
  t139 := Tryz.underlying227
  a139 := Tryz.isAgg227
  z139 := Tryz.sizeOf227
  v139 := Tryz.zeroValue227
  g3 := by kernel_rfl
  g4 := by kernel_rfl }
namespace Am
/-- the tables are among the variables -/
class OkT (l : List Nat) : Prop where
  a : tabA ∈ lst l
  b : tabB ∈ lst l
instance okTT : OkT gsT := ⟨by decide, by decide⟩
theorem valid_ac {gs : List Nat} [OkT gs] (l : List UInt8) (hl : l.length ≤ 9223372036854775807) : ACp gs Tryz.prog 172 [strC l] (.c (.bool (Lib.validD l))) :=
  ac_old fun al w St vals hs hv hr => by
    have h0 : vals.getD 0 undef = .string ⟨l.toArray⟩ := hr 0
    rw [vals1 hv, h0]
    exact Any.utf8_ValidString u8lays ⟨l.toArray⟩ w hl (hs.tab OkT.a OkT.b)
end Am
end Go.Proofs.YtgnjjenalebiaaaGreatDoor

/- Chapter 7, plain: what the reference asks of a rune's bytes. -/
namespace Go.Proofs.YtgnjjenalebiaaaGreatDoor
namespace Am
open Go.RowKit Go.Lib
set_option linter.unusedVariables false

/-- what the first byte b says: n more bytes, the bits c, the least -/
def RefSt (b n c least : Nat) : Prop :=
  (n = 0 ∧ c = b ∧ least = 0 ∧ b < 128 ∧ 32 ≤ b ∧ b ≠ 127) ∨ (n = 1 ∧ c + 192 = b ∧ least = 128 ∧ b < 224) ∨ (n = 2 ∧ c + 224 = b ∧ least = 2048 ∧ b < 240) ∨ (n = 3 ∧ c + 240 = b ∧ least = 65536 ∧ b < 248)
def cR (d : List UInt8) (c0 : Nat) : Nat → Nat
  | 0 => c0
  | j + 1 => cR d c0 j * 64 + bt d (j + 1) - 128
theorem cR_bd {d : List UInt8} {c0 j : Nat} (hj : j ≤ 3) (h0 : c0 < 128) (h : ∀ q, 1 ≤ q → q ≤ j → 128 ≤ bt d q ∧ bt d q ≤ 191) : cR d c0 j < 33554432 ∧ (j ≤ 2 → cR d c0 j < 524288) := by
  have h1 := h 1 (by omega)
  have h2 := h 2 (by omega)
  have h3 := h 3 (by omega)
  have e0 : cR d c0 0 = c0 := rfl
  have e1 : cR d c0 1 = c0 * 64 + bt d 1 - 128 := rfl
  have e2 : cR d c0 2 = (c0 * 64 + bt d 1 - 128) * 64 + bt d 2 - 128 := rfl
  have e3 : cR d c0 3 = ((c0 * 64 + bt d 1 - 128) * 64 + bt d 2 - 128) * 64 + bt d 3 - 128 := rfl
  have hj4 : j = 0 ∨ j = 1 ∨ j = 2 ∨ j = 3 := by omega
  rcases hj4 with e | e | e | e <;> rw [e] <;> omega
theorem ref_cont {d : List UInt8} {n c least j : Nat} (hd : d ≠ []) (hR : RefSt (bt d 0) n c least) (hj : j < n) (hl : d.length = 1 + j ∨ bt d (j + 1) < 128 ∨ 191 < bt d (j + 1)) : plainM d = false := by
  refine ref_bad hd ?_
  unfold RefSt at hR
  rcases hR with hR | hR | hR | hR
  · omega
  · rw [dec_two (by omega) (by omega), if_pos ?_]
    obtain rfl : j = 0 := by omega
    simp only [Nat.zero_add] at hl
    omega
  · rw [dec_three (by omega) (by omega), if_pos ?_]
    have : j = 0 ∨ j = 1 := by omega
    rcases this with rfl | rfl <;> simp only [Nat.zero_add, Nat.reduceAdd] at hl <;> omega
  · rw [dec_four (by omega) (by omega), if_pos ?_]
    have : j = 0 ∨ j = 1 ∨ j = 2 := by omega
    rcases this with rfl | rfl | rfl <;> simp only [Nat.zero_add, Nat.reduceAdd] at hl <;> omega
theorem ref_end {d : List UInt8} {n c least : Nat} (hd : d ≠ []) (hR : RefSt (bt d 0) n c least) (hl : 1 + n ≤ d.length) (h : ∀ q, 1 ≤ q → q ≤ n → 128 ≤ bt d q ∧ bt d q ≤ 191) :
    plainM d = if cR d c n < least ∨ 1114111 < cR d c n ∨ (55296 ≤ cR d c n ∧ cR d c n < 57344) then false else plainM (d.drop (1 + n)) := by
  have h1 := h 1 (by omega)
  have h2 := h 2 (by omega)
  have h3 := h 3 (by omega)
  unfold RefSt at hR
  rcases hR with ⟨rfl, rfl, rfl, hR⟩ | ⟨rfl, hc, rfl, hR⟩ | ⟨rfl, hc, rfl, hR⟩ | ⟨rfl, hc, rfl, hR⟩
  · rw [ref_ascii hd (by omega), if_neg (by omega), if_neg (by show ¬ (bt d 0 < 0 ∨ 1114111 < bt d 0 ∨ (55296 ≤ bt d 0 ∧ bt d 0 < 57344)); omega)]
  · have e : cR d c 1 = (bt d 0 - 192) * 64 + bt d 1 - 128 := by show c * 64 + bt d 1 - 128 = _; omega
    have hd2 := dec_two (l := d) (by omega) (by omega)
    rw [e]
    by_cases hb : (bt d 0 - 192) * 64 + bt d 1 - 128 < 128
    · rw [if_pos (.inl hb)]
      exact ref_bad hd (by rw [hd2, if_pos (by omega)])
    · rw [if_neg (by omega)]
      exact ref_good hd (by rw [hd2, if_neg (by omega)]) (by omega) (by omega)
  · have e : cR d c 2 = ((bt d 0 - 224) * 64 + bt d 1 - 128) * 64 + bt d 2 - 128 := by show (c * 64 + bt d 1 - 128) * 64 + bt d 2 - 128 = _; omega
    have hd2 := dec_three (l := d) (by omega) (by omega)
    obtain ⟨C, hC⟩ : ∃ C, C = ((bt d 0 - 224) * 64 + bt d 1 - 128) * 64 + bt d 2 - 128 := ⟨_, rfl⟩
    have hlt : C ≤ 65535 := by omega
    rw [e, ← hC]
    rw [← hC] at hd2
    by_cases hb : C < 2048 ∨ (55296 ≤ C ∧ C < 57344)
    · rw [if_pos (by omega)]
      exact ref_bad hd (by rw [hd2, if_pos (by omega)])
    · rw [if_neg (by omega)]
      exact ref_good hd (by rw [hd2, if_neg (by omega)]) (by omega) (by omega)
  · have e : cR d c 3 = (((bt d 0 - 240) * 64 + bt d 1 - 128) * 64 + bt d 2 - 128) * 64 + bt d 3 - 128 := by show ((c * 64 + bt d 1 - 128) * 64 + bt d 2 - 128) * 64 + bt d 3 - 128 = _; omega
    have hd2 := dec_four (l := d) (by omega) (by omega)
    obtain ⟨C, hC⟩ : ∃ C, C = (((bt d 0 - 240) * 64 + bt d 1 - 128) * 64 + bt d 2 - 128) * 64 + bt d 3 - 128 := ⟨_, rfl⟩
    rw [e, ← hC]
    rw [← hC] at hd2
    by_cases hb : C < 65536 ∨ 1114111 < C
    · rw [if_pos (by omega)]
      exact ref_bad hd (by rw [hd2, if_pos (by omega)])
    · rw [if_neg (by omega)]
      exact ref_good hd (by rw [hd2, if_neg (by omega)]) (by omega) (by omega)
theorem bt_drop (l : List UInt8) (i j : Nat) : bt (l.drop i) j = bt l (i + j) := by simp [bt, List.getD]
theorem dec_at (l : List UInt8) (i : Nat) : Utf8.decode ⟨l.toArray⟩ i = dec1 (l.drop i) := by
  unfold dec1
  rw [Lib.decode_at, ba_bang, ba_bang, ba_bang, ba_bang, bt_drop, bt_drop, bt_drop, bt_drop, List.length_drop]
  rfl
theorem dec1_le {d : List UInt8} (hd : d ≠ []) : (dec1 d).2 ≤ d.length := by
  have hp := List.length_pos_iff.2 hd
  unfold dec1 Lib.decodeN
  repeat' split
  all_goals first | (simp only; omega) | omega
end Am
end Go.Proofs.YtgnjjenalebiaaaGreatDoor

/- Chapter 7: which texts are plain. -/
namespace Go.Proofs.YtgnjjenalebiaaaGreatDoor
set_option linter.unusedVariables false
namespace Am
open Go.RowKit
set_option maxRecDepth 100000

theorem plain07_ac {gs : List Nat} [OkT gs] (l : List UInt8) (hl : l.length ≤ 1000000000) : ACp gs Tryz.prog 157 [strC l] (.c (.bool (plainM l))) := by
  refine ac_of 18 Tryz.func157 rfl rfl rfl (fun al w0 F0 St0 => ?_)
  refine jcr ?_
  refine jq jrm ?_
  refine seq_nil ?_
  refine jcs ?_
  refine jcr ?_
  refine jq jrm ?_
  refine jqe (e_range rfl rfl Tryz.underlying9 rfl rfl (fun p1 => ?_))
  refine seq_nil ?_
  refine code_block ?_
  refine l_loop (α := Nat) [2, 4, 7, 8, 9, 10, 11, 12, 13, 14, 15] (fun i => []) (fun i => [(some p1, .obj (iterOP ⟨l.toArray⟩ i))]) (fun i => i ≤ l.length ∧ noBadM (l.drop i) = noBadM l) (fun i => l.length - i) (0) ?_ (fun _ => rfl) ?_ ?_ ?_
  · exact ⟨Nat.zero_le _, rfl⟩
  · exact .nil
  · exact .same .nil
  · rintro i ⟨hi, he⟩
    refine jcr ?_
    refine seq_md (wanted_none rfl) (m_next rfl rfl rfl rfl rfl (fun n23 => ?_) (fun n23 => ?_))
    · refine jq jrx ?_
      refine seq_nil ?_
      refine jcs ?_
      refine jcT ?_
      refine code_skip (jtn ?_)
      refine code_block ?_
      refine jcr ?_
      refine jq jrx ?_
      refine jq jrm ?_
      refine seq_nil ?_
      have hd := dec_at l i
      have hlt : i < l.length := n23
      have hne : l.drop i ≠ [] := by intro e; have := congrArg List.length e; simp at this; omega
      have hw := dec1_width (l.drop i)
      have hwl := dec1_le hne
      simp only [List.length_drop] at hwl
      rw [← hd] at hw hwl
      refine jcr ?_
      refine jq jrm ?_
      refine jq jrc ?_
      refine jq jrm ?_
      refine jqsp 12 (fun g24 => ?_) fun g24 => ?_
      · refine jqs ?_
        refine jqs ?_
        refine jq jrpT ?_
        refine seq_nil ?_
        refine jcT ?_
        refine jcr ?_
        refine jq jrm ?_
        refine seq_nil ?_
        refine code_ret (jbr (jtr (jbr (jtr (jrt (hv := ?_))))))
        refine CEnt.bool ?_
        rw [plainM_two, ← he, noBadM_step hne, ← hd, if_pos ?_]
        · rfl
        · unfold badR; simp only [Bool.or_eq_true, decide_eq_true_eq]; omega
      refine jq jrm ?_
      refine jq jrc ?_
      refine jq jrpF ?_
      refine seq_nil ?_
      refine jcc (fun h24 => ?_) fun h24 => ?_
      · refine jcr ?_
        refine jq jrm ?_
        refine seq_nil ?_
        refine code_ret (jbr (jtr (jbr (jtr (jrt (hv := ?_))))))
        refine CEnt.bool ?_
        rw [plainM_two, ← he, noBadM_step hne, ← hd, if_pos ?_]
        · rfl
        · unfold badR; simp only [Bool.or_eq_true, decide_eq_true_eq]; omega
      refine code_skip (jbn (jtn ?_))
      refine jlend (i + (Utf8.decode ⟨l.toArray⟩ i).2) ?_ ?_ (h5 := ?_) (h7 := ?_)
      · refine ⟨by omega, ?_⟩
        have hb : ¬ badR (Utf8.decode ⟨l.toArray⟩ i).1 = true := by unfold badR; simp only [Bool.or_eq_true, decide_eq_true_eq]; omega
        rw [← he, noBadM_step hne, ← hd, if_neg hb, List.drop_drop]
      · show l.length - (i + (Utf8.decode ⟨l.toArray⟩ i).2) < l.length - i; omega
      · exact .nil
      · exact .same .nil
    · refine jq jrx ?_
      refine seq_nil ?_
      refine jcs ?_
      refine jcF ?_
      refine code_exit (jte (jte (jbx (jtn ?_))))
      refine jcr ?_
      refine jq jrm ?_
      refine jqe (jecP (valid_ac l (by omega)) ?_)
      refine jq jrm ?_
      refine seq_nil ?_
      refine code_ret (jrt (hv := ?_))
      refine CEnt.bool ?_
      have e : l.drop i = [] := List.drop_eq_nil_of_le (Nat.le_of_not_lt n23)
      rw [plainM_two, ← he, e]
      rfl


set_option maxHeartbeats 4000000 in
theorem rplain_ac {gs : List Nat} (l : List UInt8) (hl : l.length ≤ 1000000000) : ACp gs Tryz.prog 130 [strC l] (.c (.bool (plainM l))) := by
  refine ac_of 94 Tryz.func130 rfl rfl rfl (fun al w0 F0 St0 => ?_)
  refine jcr ?_
  refine jq jrm ?_
  refine seq_nil ?_
  refine jcr ?_
  refine jq jrm ?_
  refine seq_nil ?_
  refine jcs ?_
  refine code_block ?_
  refine l_loop (α := Nat) [2, 3, 4, 5, 6, 7, 8, 9, 10, 11, 12, 13, 14, 15, 16, 17, 18, 19, 20, 21, 22, 23, 24, 25, 26, 27, 28, 29, 30, 31, 32, 33, 34, 35, 36, 37, 38, 39, 40, 41, 42, 43, 44, 45, 46, 47, 48, 49, 50, 51, 52, 53, 54, 55, 56, 57, 58, 59, 60, 61, 62, 63, 64, 65, 66, 67, 68, 69, 70, 71, 72, 73, 74, 75, 76, 77, 78, 79, 80, 81, 82, 83, 84, 85, 86, 87, 88, 89, 90, 91, 92, 93] (fun i => [(3, .c (.int .i64 (i : Nat)))]) (fun _ => []) (fun i => i ≤ l.length ∧ plainM (l.drop i) = plainM l) (fun i => l.length - i) (0) ?_ (fun _ => rfl) ?_ ?_ ?_
  · exact ⟨Nat.zero_le _, rfl⟩
  · exact .cons (CEnt.refl _) .nil
  · (repeat (first | exact HEnt.nil | refine HEnt.same ?_ | refine HEnt.blk rfl (fun j hj => by rcases j with _|_|_|_|_|_|_|_|j <;> first | exact CEnt.refl _ | exact CEnt.int (by omega) | omega) ?_))
  · rintro i ⟨hi, he⟩
    refine jcs ?_
    refine jcr ?_
    refine jq jrm ?_
    refine jq jrm ?_
    refine jq jrls ?_
    refine jq jrc ?_
    refine seq_nil ?_
    refine jcc (fun h9 => ?_) fun h9 => ?_
    rotate_left
    · refine code_exit (jte (jte (jbx (jtn ?_))))
      refine jcr ?_
      refine jq jrm ?_
      refine seq_nil ?_
      refine code_ret (jrt (hv := ?_))
      refine CEnt.bool ?_
      rw [← he, List.drop_eq_nil_of_le (by omega)]
      rfl
    refine code_skip (jtn ?_)
    refine code_block ?_
    refine jcr ?_
    refine jq jrm ?_
    refine jq jrm ?_
    refine jq jrix ?_
    refine jq (jrv8 .i64) ?_
    refine jq jrm ?_
    refine jq jrm ?_
    refine jq jrm ?_
    refine seq_nil ?_
    have hlt : i < l.length := by omega
    have hne : l.drop i ≠ [] := by intro e; have := congrArg List.length e; simp at this; omega
    obtain ⟨b, hb⟩ : ∃ b, b = bt (l.drop i) 0 := ⟨_, rfl⟩
    have hbl : b < 256 := by rw [hb]; exact bt_lt _ _
    refine code_join (α := Nat × Nat × Nat) [2, 4, 5, 6, 15, 16, 17, 18, 19, 20, 21, 22, 23, 24, 25, 26, 27, 28, 29, 30, 31, 32, 33, 34, 35, 36, 37, 38, 39, 40, 41, 42, 43, 44, 45, 46] (fun (n, c, z) => [(4, .c (.int .i64 (c : Nat))), (5, .c (.int .i64 (n : Nat))), (6, .c (.int .i64 (z : Nat)))]) (fun _ => []) (fun (n, c, z) => RefSt (bt (l.drop i) 0) n c z) (fun _ => rfl) ?_ ?_
    · refine code_ent (weaken 4 (.c (.int .i64 (b : Nat))) (CEnt.int (by rw [hb, bt_drop]; rfl))) ?_
      refine jcr ?_
      refine jq jrm ?_
      refine jq jrc ?_
      refine seq_nil ?_
      refine jcc (fun h11 => ?_) fun h11 => ?_
      · refine jcr ?_
        refine jq jrm ?_
        refine jq jrc ?_
        refine jq jrm ?_
        refine jqsp 19 (fun g12 => ?_) fun g12 => ?_
        · refine jqs ?_
          refine jqs ?_
          refine jq jrpT ?_
          refine seq_nil ?_
          refine jcT ?_
          refine jcr ?_
          refine jq jrm ?_
          refine seq_nil ?_
          refine code_ret (jtr (jbr (jtr (jbr (jtr (jrt (hv := ?_)))))))
          refine CEnt.bool ?_
          rw [← he, ref_ascii hne (by rw [← hb]; omega), if_pos (by rw [← hb]; omega)]
        refine jq jrm ?_
        refine jq jrc ?_
        refine jq jrpF ?_
        refine seq_nil ?_
        refine jcc (fun h12 => ?_) fun h12 => ?_
        rotate_left
        · refine code_skip (jtn ?_)
          refine jjend ((0, b, 0)) ?_ (h5 := ?_)
          · show RefSt (bt (l.drop i) 0) _ _ _
            rw [← hb]; unfold RefSt; omega
          · exact .cons (CEnt.int (by omega)) (.cons (CEnt.int (by omega)) (.cons (CEnt.int (by omega)) .nil))
        refine jcr ?_
        refine jq jrm ?_
        refine seq_nil ?_
        refine code_ret (jtr (jbr (jtr (jbr (jtr (jrt (hv := ?_)))))))
        refine CEnt.bool ?_
        rw [← he, ref_ascii hne (by rw [← hb]; omega), if_pos (by rw [← hb]; omega)]
      refine jcr ?_
      refine jq jrm ?_
      refine jq jrc ?_
      refine jq jrm ?_
      refine jqsp 25 (fun g15 => ?_) fun g15 => ?_
      rotate_left
      · refine jqs ?_
        refine jqs ?_
        refine jq jrpF ?_
        refine seq_nil ?_
        refine jcF ?_
        refine jcr ?_
        refine jq jrm ?_
        refine jq jrc ?_
        refine jq jrm ?_
        refine jqsp 33 (fun g17 => ?_) fun g17 => ?_
        rotate_left
        · refine jqs ?_
          refine jqs ?_
          refine jq jrpF ?_
          refine seq_nil ?_
          refine jcF ?_
          refine jcr ?_
          refine jq jrm ?_
          refine jq jrc ?_
          refine jq jrm ?_
          refine jqsp 41 (fun g19 => ?_) fun g19 => ?_
          rotate_left
          · refine jqs ?_
            refine jqs ?_
            refine jq jrpF ?_
            refine seq_nil ?_
            refine jcF ?_
            refine jcr ?_
            refine jq jrm ?_
            refine seq_nil ?_
            refine code_ret (jtr (jbr (jtr (jbr (jtr (jrt (hv := ?_)))))))
            refine CEnt.bool ?_
            rw [← he, ref_bad hne (dec_head_bad (by rw [← hb]; omega) (by rw [← hb]; omega))]
          refine jq jrm ?_
          refine jq jrc ?_
          refine jq jrpT ?_
          refine seq_nil ?_
          refine jcc (fun h19 => ?_) fun h19 => ?_
          rotate_left
          · refine jcr ?_
            refine jq jrm ?_
            refine seq_nil ?_
            refine code_ret (jtr (jbr (jtr (jbr (jtr (jrt (hv := ?_)))))))
            refine CEnt.bool ?_
            rw [← he, ref_bad hne (dec_head_bad (by rw [← hb]; omega) (by rw [← hb]; omega))]
          refine jcg ?_
          refine jq jrm ?_
          refine jq jra ?_
          refine jq jrm ?_
          refine jq jrm ?_
          refine jq jrm ?_
          refine seq_nil ?_
          refine jtn ?_
          refine jjend ((3, b - 240, 65536)) ?_ (h5 := ?_)
          · show RefSt (bt (l.drop i) 0) _ _ _
            rw [← hb]; unfold RefSt; omega
          · exact .cons (CEnt.int (by omega)) (.cons (CEnt.int (by omega)) (.cons (CEnt.int (by omega)) .nil))
        refine jq jrm ?_
        refine jq jrc ?_
        refine jq jrpT ?_
        refine seq_nil ?_
        refine jcc (fun h17 => ?_) fun h17 => ?_
        · refine jcg ?_
          refine jq jrm ?_
          refine jq jra ?_
          refine jq jrm ?_
          refine jq jrm ?_
          refine jq jrm ?_
          refine seq_nil ?_
          refine jtn ?_
          refine jjend ((3, b - 240, 65536)) ?_ (h5 := ?_)
          · show RefSt (bt (l.drop i) 0) _ _ _
            rw [← hb]; unfold RefSt; omega
          · exact .cons (CEnt.int (by omega)) (.cons (CEnt.int (by omega)) (.cons (CEnt.int (by omega)) .nil))
        refine jcr ?_
        refine jq jrm ?_
        refine jq jrc ?_
        refine jq jrm ?_
        refine jqsp 41 (fun g19 => ?_) fun g19 => ?_
        rotate_left
        · refine jqs ?_
          refine jqs ?_
          refine jq jrpF ?_
          refine seq_nil ?_
          refine jcF ?_
          refine jcr ?_
          refine jq jrm ?_
          refine seq_nil ?_
          refine code_ret (jtr (jbr (jtr (jbr (jtr (jrt (hv := ?_)))))))
          refine CEnt.bool ?_
          rw [← he, ref_bad hne (dec_head_bad (by rw [← hb]; omega) (by rw [← hb]; omega))]
        refine jq jrm ?_
        refine jq jrc ?_
        refine jq jrpT ?_
        refine seq_nil ?_
        refine jcc (fun h19 => ?_) fun h19 => ?_
        rotate_left
        · refine jcr ?_
          refine jq jrm ?_
          refine seq_nil ?_
          refine code_ret (jtr (jbr (jtr (jbr (jtr (jrt (hv := ?_)))))))
          refine CEnt.bool ?_
          rw [← he, ref_bad hne (dec_head_bad (by rw [← hb]; omega) (by rw [← hb]; omega))]
        refine jcg ?_
        refine jq jrm ?_
        refine jq jra ?_
        refine jq jrm ?_
        refine jq jrm ?_
        refine jq jrm ?_
        refine seq_nil ?_
        refine jtn ?_
        refine jjend ((3, b - 240, 65536)) ?_ (h5 := ?_)
        · show RefSt (bt (l.drop i) 0) _ _ _
          rw [← hb]; unfold RefSt; omega
        · exact .cons (CEnt.int (by omega)) (.cons (CEnt.int (by omega)) (.cons (CEnt.int (by omega)) .nil))
      refine jq jrm ?_
      refine jq jrc ?_
      refine jq jrpT ?_
      refine seq_nil ?_
      refine jcc (fun h15 => ?_) fun h15 => ?_
      · refine jcg ?_
        refine jq jrm ?_
        refine jq jra ?_
        refine jq jrm ?_
        refine jq jrm ?_
        refine jq jrm ?_
        refine seq_nil ?_
        refine jtn ?_
        refine jjend ((1, b - 192, 128)) ?_ (h5 := ?_)
        · show RefSt (bt (l.drop i) 0) _ _ _
          rw [← hb]; unfold RefSt; omega
        · exact .cons (CEnt.int (by omega)) (.cons (CEnt.int (by omega)) (.cons (CEnt.int (by omega)) .nil))
      refine jcr ?_
      refine jq jrm ?_
      refine jq jrc ?_
      refine jq jrm ?_
      refine jqsp 33 (fun g17 => ?_) fun g17 => ?_
      rotate_left
      · refine jqs ?_
        refine jqs ?_
        refine jq jrpF ?_
        refine seq_nil ?_
        refine jcF ?_
        refine jcr ?_
        refine jq jrm ?_
        refine jq jrc ?_
        refine jq jrm ?_
        refine jqsp 41 (fun g19 => ?_) fun g19 => ?_
        rotate_left
        · refine jqs ?_
          refine jqs ?_
          refine jq jrpF ?_
          refine seq_nil ?_
          refine jcF ?_
          refine jcr ?_
          refine jq jrm ?_
          refine seq_nil ?_
          refine code_ret (jtr (jbr (jtr (jbr (jtr (jrt (hv := ?_)))))))
          refine CEnt.bool ?_
          rw [← he, ref_bad hne (dec_head_bad (by rw [← hb]; omega) (by rw [← hb]; omega))]
        refine jq jrm ?_
        refine jq jrc ?_
        refine jq jrpT ?_
        refine seq_nil ?_
        refine jcc (fun h19 => ?_) fun h19 => ?_
        rotate_left
        · refine jcr ?_
          refine jq jrm ?_
          refine seq_nil ?_
          refine code_ret (jtr (jbr (jtr (jbr (jtr (jrt (hv := ?_)))))))
          refine CEnt.bool ?_
          rw [← he, ref_bad hne (dec_head_bad (by rw [← hb]; omega) (by rw [← hb]; omega))]
        refine jcg ?_
        refine jq jrm ?_
        refine jq jra ?_
        refine jq jrm ?_
        refine jq jrm ?_
        refine jq jrm ?_
        refine seq_nil ?_
        refine jtn ?_
        refine jjend ((3, b - 240, 65536)) ?_ (h5 := ?_)
        · show RefSt (bt (l.drop i) 0) _ _ _
          rw [← hb]; unfold RefSt; omega
        · exact .cons (CEnt.int (by omega)) (.cons (CEnt.int (by omega)) (.cons (CEnt.int (by omega)) .nil))
      refine jq jrm ?_
      refine jq jrc ?_
      refine jq jrpT ?_
      refine seq_nil ?_
      refine jcc (fun h17 => ?_) fun h17 => ?_
      · refine jcg ?_
        refine jq jrm ?_
        refine jq jra ?_
        refine jq jrm ?_
        refine jq jrm ?_
        refine jq jrm ?_
        refine seq_nil ?_
        refine jtn ?_
        refine jjend ((2, b - 224, 2048)) ?_ (h5 := ?_)
        · show RefSt (bt (l.drop i) 0) _ _ _
          rw [← hb]; unfold RefSt; omega
        · exact .cons (CEnt.int (by omega)) (.cons (CEnt.int (by omega)) (.cons (CEnt.int (by omega)) .nil))
      refine jcr ?_
      refine jq jrm ?_
      refine jq jrc ?_
      refine jq jrm ?_
      refine jqsp 41 (fun g19 => ?_) fun g19 => ?_
      rotate_left
      · refine jqs ?_
        refine jqs ?_
        refine jq jrpF ?_
        refine seq_nil ?_
        refine jcF ?_
        refine jcr ?_
        refine jq jrm ?_
        refine seq_nil ?_
        refine code_ret (jtr (jbr (jtr (jbr (jtr (jrt (hv := ?_)))))))
        refine CEnt.bool ?_
        rw [← he, ref_bad hne (dec_head_bad (by rw [← hb]; omega) (by rw [← hb]; omega))]
      refine jq jrm ?_
      refine jq jrc ?_
      refine jq jrpT ?_
      refine seq_nil ?_
      refine jcc (fun h19 => ?_) fun h19 => ?_
      rotate_left
      · refine jcr ?_
        refine jq jrm ?_
        refine seq_nil ?_
        refine code_ret (jtr (jbr (jtr (jbr (jtr (jrt (hv := ?_)))))))
        refine CEnt.bool ?_
        rw [← he, ref_bad hne (dec_head_bad (by rw [← hb]; omega) (by rw [← hb]; omega))]
      refine jcg ?_
      refine jq jrm ?_
      refine jq jra ?_
      refine jq jrm ?_
      refine jq jrm ?_
      refine jq jrm ?_
      refine seq_nil ?_
      refine jtn ?_
      refine jjend ((3, b - 240, 65536)) ?_ (h5 := ?_)
      · show RefSt (bt (l.drop i) 0) _ _ _
        rw [← hb]; unfold RefSt; omega
      · exact .cons (CEnt.int (by omega)) (.cons (CEnt.int (by omega)) (.cons (CEnt.int (by omega)) .nil))
    · rintro ⟨n0, c0, least⟩ hR0
      have hR : RefSt (bt (l.drop i) 0) n0 c0 least := hR0
      clear hR0
      have hRb := hR
      rw [← hb] at hRb
      unfold RefSt at hRb
      have hn3 : n0 ≤ 3 := by omega
      have hc128 : c0 < 128 := by omega
      have hl6 : least ≤ 65536 := by omega
      clear hRb
      refine jcr ?_
      refine jq jrm ?_
      refine jq jra ?_
      refine jq jrm ?_
      refine seq_nil ?_
      refine jcs ?_
      refine code_block ?_
      refine l_loop (α := Nat) [2, 3, 4, 5, 49, 50, 51, 52, 53, 54, 55, 56, 57, 58, 59, 60, 61, 62, 63, 64, 65, 66, 67, 68, 69, 70, 71, 72, 73, 74, 75, 76, 77, 78] (fun j => [(3, .c (.int .i64 (((i + 1 + j : Nat) : Int)))), (4, .c (.int .i64 (cR (l.drop i) c0 j : Nat))), (5, .c (.int .i64 ((n0 - j : Nat) : Int)))]) (fun _ => []) (fun j => j ≤ n0 ∧ i + 1 + j ≤ l.length ∧ ∀ q, 1 ≤ q → q ≤ j → 128 ≤ bt (l.drop i) q ∧ bt (l.drop i) q ≤ 191) (fun j => n0 - j) (0) ?_ (fun _ => rfl) ?_ ?_ ?_
      · exact ⟨Nat.zero_le _, by omega, fun q h1 h2 => by omega⟩
      · exact .cons (CEnt.int (by omega)) (.cons (CEnt.refl _) (.cons (CEnt.refl _) .nil))
      · (repeat (first | exact HEnt.nil | refine HEnt.same ?_ | refine HEnt.blk rfl (fun j hj => by rcases j with _|_|_|_|_|_|_|_|j <;> first | exact CEnt.refl _ | exact CEnt.int (by omega) | omega) ?_))
      · rintro j ⟨hj, hil, hq⟩
        have hcb := cR_bd (d := l.drop i) (c0 := c0) (j := j) (by omega) hc128 hq
        refine jcs ?_
        refine jcr ?_
        refine jq jrm ?_
        refine jq jrc ?_
        refine seq_nil ?_
        refine jcc (fun h25 => ?_) fun h25 => ?_
        rotate_left
        · refine code_exit (jte (jte (jbx (jtn ?_))))
          have hjn : j = n0 := by omega
          subst hjn
          obtain ⟨C, hjn⟩ : ∃ C, C = cR (l.drop i) c0 j := ⟨_, rfl⟩
          rw [← hjn] at hcb
          refine code_ent (weaken 4 (.c (.int .i64 (C : Nat))) (CEnt.int (by rw [hjn]))) ?_
          refine jcr ?_
          refine jq jrm ?_
          refine jq jrm ?_
          refine jq jrc ?_
          refine jq jrm ?_
          refine jqsp 82 (fun g32 => ?_) fun g32 => ?_
          · refine jqs ?_
            refine jqs ?_
            refine jq jrpT ?_
            refine jq jrm ?_
            refine jqs ?_
            refine jqs ?_
            refine jqs ?_
            refine jqs ?_
            refine jqs ?_
            refine jqs ?_
            refine jq jrpT ?_
            refine seq_nil ?_
            refine jcT ?_
            refine jcr ?_
            refine jq jrm ?_
            refine seq_nil ?_
            refine code_ret (jbr (jtr (jbr (jtr (jrt (hv := ?_))))))
            refine CEnt.bool ?_
            rw [← he, ref_end hne hR (by rw [List.length_drop]; omega) hq, if_pos (by rw [← hjn]; omega)]
          refine jq jrm ?_
          refine jq jrc ?_
          refine jq jrpF ?_
          refine jq jrm ?_
          refine jqsp 86 (fun g32_2 => ?_) fun g32_2 => ?_
          · refine jqs ?_
            refine jqs ?_
            refine jqs ?_
            refine jqs ?_
            refine jqs ?_
            refine jqs ?_
            refine jq jrpT ?_
            refine seq_nil ?_
            refine jcT ?_
            refine jcr ?_
            refine jq jrm ?_
            refine seq_nil ?_
            refine code_ret (jbr (jtr (jbr (jtr (jrt (hv := ?_))))))
            refine CEnt.bool ?_
            rw [← he, ref_end hne hR (by rw [List.length_drop]; omega) hq, if_pos (by rw [← hjn]; omega)]
          refine jq jrm ?_
          refine jq jrc ?_
          refine jq jrm ?_
          refine jqsp 89 (fun g32_3 => ?_) fun g32_3 => ?_
          rotate_left
          · refine jqs ?_
            refine jqs ?_
            refine jq jrpF ?_
            refine jq jrpF ?_
            refine seq_nil ?_
            refine jcF ?_
            refine code_skip (jbn (jtn ?_))
            refine jlend (i + (1 + j)) ?_ ?_ (h5 := ?_)
            · refine ⟨by omega, ?_⟩
              rw [← he, ref_end hne hR (by rw [List.length_drop]; omega) hq, if_neg (by rw [← hjn]; omega), List.drop_drop]
            · show l.length - (i + (1 + j)) < l.length - i; omega
            · exact .cons (CEnt.int (by omega)) .nil
          refine jq jrm ?_
          refine jq jrc ?_
          refine jq jrpT ?_
          refine jq jrpF ?_
          refine seq_nil ?_
          refine jcc (fun h32 => ?_) fun h32 => ?_
          · refine jcr ?_
            refine jq jrm ?_
            refine seq_nil ?_
            refine code_ret (jbr (jtr (jbr (jtr (jrt (hv := ?_))))))
            refine CEnt.bool ?_
            rw [← he, ref_end hne hR (by rw [List.length_drop]; omega) hq, if_pos (by rw [← hjn]; omega)]
          refine code_skip (jbn (jtn ?_))
          refine jlend (i + (1 + j)) ?_ ?_ (h5 := ?_)
          · refine ⟨by omega, ?_⟩
            rw [← he, ref_end hne hR (by rw [List.length_drop]; omega) hq, if_neg (by rw [← hjn]; omega), List.drop_drop]
          · show l.length - (i + (1 + j)) < l.length - i; omega
          · exact .cons (CEnt.int (by omega)) .nil
        refine code_skip (jtn ?_)
        refine jcs ?_
        refine code_block ?_
        refine jcs ?_
        obtain ⟨x, hx⟩ : ∃ x, x = bt (l.drop i) (j + 1) := ⟨_, rfl⟩
        have hx2 : (l.getD (i + 1 + j) 0).toNat = x := by rw [hx, bt_drop, show i + (j + 1) = i + 1 + j by omega]; rfl
        have hxl : x < 256 := by rw [hx]; exact bt_lt _ _
        refine jcr ?_
        refine jq jrm ?_
        refine jq jrm ?_
        refine jq jrls ?_
        refine jq jrc ?_
        refine jq jrm ?_
        refine jqsp 57 (fun g26 => ?_) fun g26 => ?_
        · refine jqs ?_
          refine jqs ?_
          refine jqs ?_
          refine jqs ?_
          refine jq jrpT ?_
          refine jq jrm ?_
          refine jqs ?_
          refine jqs ?_
          refine jqs ?_
          refine jqs ?_
          refine jq jrpT ?_
          refine seq_nil ?_
          refine jcT ?_
          refine jcr ?_
          refine jq jrm ?_
          refine seq_nil ?_
          refine code_ret (jtr (jbr (jtr (jtr (jbr (jtr (jbr (jtr (jbr (jtr (jrt (hv := ?_))))))))))))
          refine CEnt.bool ?_
          rw [← he, ref_cont hne hR (show j < n0 by omega) (by rw [← hx, List.length_drop]; omega)]
        refine jq jrm ?_
        refine jq jrm ?_
        refine jq jrix ?_
        refine jq jrc ?_
        refine jq jrpF ?_
        refine jq jrm ?_
        refine jqsp 63 (fun g26_2 => ?_) fun g26_2 => ?_
        · refine jqs ?_
          refine jqs ?_
          refine jqs ?_
          refine jqs ?_
          refine jq jrpT ?_
          refine seq_nil ?_
          refine jcT ?_
          refine jcr ?_
          refine jq jrm ?_
          refine seq_nil ?_
          refine code_ret (jtr (jbr (jtr (jtr (jbr (jtr (jbr (jtr (jbr (jtr (jrt (hv := ?_))))))))))))
          refine CEnt.bool ?_
          rw [← he, ref_cont hne hR (show j < n0 by omega) (by rw [← hx, List.length_drop]; omega)]
        refine jq jrm ?_
        refine jq jrm ?_
        refine jq jrix ?_
        refine jq jrc ?_
        refine jq jrpF ?_
        refine seq_nil ?_
        refine jcc (fun h26 => ?_) fun h26 => ?_
        · refine jcr ?_
          refine jq jrm ?_
          refine seq_nil ?_
          refine code_ret (jtr (jbr (jtr (jtr (jbr (jtr (jbr (jtr (jbr (jtr (jrt (hv := ?_))))))))))))
          refine CEnt.bool ?_
          rw [← he, ref_cont hne hR (show j < n0 by omega) (by rw [← hx, List.length_drop]; omega)]
        refine code_skip (jtn ?_)
        refine jcr ?_
        refine jq jrm ?_
        refine jq jra ?_
        refine jq jrm ?_
        refine jq jrm ?_
        refine jq jrix ?_
        refine jq (jrv8 .i64) ?_
        refine jq jra ?_
        refine jq jra ?_
        refine jq jrm ?_
        refine seq_nil ?_
        refine jcg ?_
        refine jq jrm ?_
        refine jq jra ?_
        refine jq jrm ?_
        refine seq_nil ?_
        refine jbn (jtn ?_)
        refine jcg ?_
        refine jq jrm ?_
        refine jq jra ?_
        refine jq jrm ?_
        refine seq_nil ?_
        refine jtn ?_
        refine jlend (j + 1) ?_ ?_ (h5 := ?_)
        · refine ⟨by omega, by omega, fun q h1 h2 => ?_⟩
          by_cases e : q = j + 1
          · rw [e, ← hx]; omega
          · exact hq q h1 (by omega)
        · show n0 - (j + 1) < n0 - j; omega
        · exact .cons (CEnt.int (by omega)) (.cons (CEnt.int (by show _ = ((cR (l.drop i) c0 j * 64 + bt (l.drop i) (j + 1) - 128 : Nat) : Int); rw [← hx]; omega)) (.cons (CEnt.int (by omega)) .nil))
end Am
end Go.Proofs.YtgnjjenalebiaaaGreatDoor

/- Chapter 7, plain: shifts and bits of numbers as the program computes them. -/
namespace Go.Proofs.YtgnjjenalebiaaaGreatDoor
namespace Am
open Go.RowKit
set_option linter.unusedVariables false
set_option maxRecDepth 100000

theorem shr_nat {M i b : Nat} (h : i ≤ b) : Int.fdiv ((M : Nat) : Int) (2 ^ (min ((i : Nat) : Int).toNat b)) = ((M / 2 ^ i : Nat) : Int) := by
  rw [Int.toNat_natCast, Nat.min_eq_left h, show ((2 : Int) ^ i) = ((2 ^ i : Nat) : Int) by push_cast; rfl, Int.fdiv_eq_ediv_of_nonneg _ (Int.natCast_nonneg _)]
  exact (Int.natCast_ediv M (2 ^ i)).symm
theorem wrap16 (n : Int) : IntKind.u16.wrap n = n % 65536 := by simp [IntKind.wrap, IntKind.bits, IntKind.signed]
theorem shl8_16 {M : Nat} (z : Int) (hz : z = 8) : IntKind.u16.wrap (((M : Nat) : Int) * 2 ^ (min z.toNat 16)) = ((M % 256 * 256 : Nat) : Int) := by
  subst hz
  rw [wrap16, show min (8 : Int).toNat 16 = 8 from rfl, show ((2 : Int) ^ 8) = 256 from rfl]
  omega
theorem shr8_16 {M : Nat} (z : Int) (hz : z = 8) : Int.fdiv ((M : Nat) : Int) (2 ^ (min z.toNat 16)) = ((M / 256 : Nat) : Int) := by
  subst hz
  rw [show min (8 : Int).toNat 16 = 8 from rfl, show ((2 : Int) ^ 8) = ((256 : Nat) : Int) from rfl, Int.fdiv_eq_ediv_of_nonneg _ (by omega)]
  exact (Int.natCast_ediv M 256).symm
theorem bv16 {a : Nat} (h : a < 65536) : BitVec.ofInt 16 ((a : Nat) : Int) = BitVec.ofNat 16 a := by
  apply BitVec.eq_of_toNat_eq; simp
theorem and255 {M : Nat} (h : M < 65536) : IntKind.u16.wrap ((BitVec.ofInt 16 ((M : Nat) : Int) &&& BitVec.ofInt 16 255).toNat : Int) = ((M % 256 : Nat) : Int) := by
  have e : (BitVec.ofInt 16 ((M : Nat) : Int) &&& BitVec.ofInt 16 255).toNat = M % 256 := by
    rw [bv16 h, show BitVec.ofInt 16 (255 : Int) = BitVec.ofNat 16 255 from rfl, BitVec.toNat_and, BitVec.toNat_ofNat, BitVec.toNat_ofNat, Nat.mod_eq_of_lt (show M < 2 ^ 16 from h)]
    exact Nat.and_two_pow_sub_one_eq_mod M 8
  rw [e, wrap16]; omega
theorem or_hl {a b : Nat} (ha : a < 256) (hb : b < 256) : IntKind.u16.wrap ((BitVec.ofInt 16 ((a : Nat) : Int) ||| BitVec.ofInt 16 ((b * 256 : Nat) : Int)).toNat : Int) = ((a + 256 * b : Nat) : Int) := by
  have e : (BitVec.ofInt 16 ((a : Nat) : Int) ||| BitVec.ofInt 16 ((b * 256 : Nat) : Int)).toNat = a + 256 * b := by
    rw [bv16 (by omega), bv16 (by omega), BitVec.toNat_or, BitVec.toNat_ofNat, BitVec.toNat_ofNat, Nat.mod_eq_of_lt (show a < 2 ^ 16 by omega), Nat.mod_eq_of_lt (show b * 256 < 2 ^ 16 by omega), Nat.or_comm]
    have := Nat.two_pow_add_eq_or_of_lt (i := 8) (b := a) (by omega) b
    rw [show b * 256 = 2 ^ 8 * b by omega, ← this]; omega
  rw [e, wrap16]; omega
theorem or_lh {a b : Nat} (ha : a < 256) (hb : b < 256) : IntKind.u16.wrap ((BitVec.ofInt 16 ((b * 256 : Nat) : Int) ||| BitVec.ofInt 16 ((a : Nat) : Int)).toNat : Int) = ((a + 256 * b : Nat) : Int) := by
  rw [BitVec.or_comm]; exact or_hl ha hb
theorem shl1 {i : Nat} (h : i ≤ 62) : IntKind.i64.wrap (1 * 2 ^ (min ((i : Nat) : Int).toNat 64)) = ((2 ^ i : Nat) : Int) := by
  have := Nat.pow_le_pow_right (n := 2) (by decide) h
  obtain ⟨q, hq⟩ : ∃ q, q = 2 ^ i := ⟨_, rfl⟩
  have h0 : q ≤ 4611686018427387904 := by rw [hq]; exact this
  clear this
  rw [Int.toNat_natCast, Nat.min_eq_left (by omega), Int.one_mul, show ((2 : Int) ^ i) = ((2 ^ i : Nat) : Int) by push_cast; rfl, ← hq]
  exact wrap_id (k := .i64) (by show _ ∧ _; omega)

/-! ### the reference's reading of a body -/
/-- the bits of a body, the first one lowest -/
def bitsR (b : List UInt8) : Nat := rev8 (b.getD 1 0).toNat + 256 * (if b.length = 3 then rev8 (b.getD 2 0).toNat else 0)
theorem bitsR_bit {b : List UInt8} {i : Nat} (hl : b.length ≤ 3) (hi : i < (b.length - 1) * 8) : (b.getD (1 + i / 8) 0).toNat / 2 ^ (7 - i % 8) % 2 = bitsR b / 2 ^ i % 2 := by
  have hy : (b.getD 1 0).toNat < 256 := UInt8.toNat_lt _
  have hz : (b.getD 2 0).toNat < 256 := UInt8.toNat_lt _
  have h1 := rev8_lt hy
  have h2 := rev8_lt hz
  unfold bitsR
  by_cases h : i < 8
  · rw [show i / 8 = 0 by omega, show i % 8 = i by omega, rev8_bit hy h]
    generalize rev8 (b.getD 1 0).toNat = p
    generalize (if b.length = 3 then rev8 (b.getD 2 0).toNat else 0) = q
    have e : 256 = 2 ^ i * (2 * 2 ^ (7 - i)) := by
      rw [← Nat.pow_succ', ← Nat.pow_add, show i + (7 - i + 1) = 8 by omega]
    rw [e, Nat.mul_assoc, Nat.add_mul_div_left _ _ (Nat.two_pow_pos i), Nat.mul_assoc, Nat.add_mul_mod_self_left]
  · have h3 : b.length = 3 := by omega
    rw [if_pos h3, show i / 8 = 1 by omega, show i % 8 = i - 8 by omega, rev8_bit hz (by omega)]
    rw [show (2 : Nat) ^ i = 256 * 2 ^ (i - 8) by rw [show i = 8 + (i - 8) by omega, Nat.pow_add]; simp, ← Nat.div_div_eq_div_mul, show (rev8 (b.getD 1 0).toNat + 256 * rev8 (b.getD 2 0).toNat) / 256 = rev8 (b.getD 2 0).toNat by omega]
theorem bitsR_lt {b : List UInt8} (hl : b.length ≤ 3) : bitsR b < 2 ^ ((b.length - 1) * 8) ∨ b.length ≤ 1 := by
  have h1 := rev8_lt (UInt8.toNat_lt (b.getD 1 0))
  have h2 := rev8_lt (UInt8.toNat_lt (b.getD 2 0))
  unfold bitsR
  by_cases h3 : b.length = 3
  · left; rw [if_pos h3, h3]; simp only [Nat.reduceSub, Nat.reduceMul, Nat.reducePow]; omega
  · by_cases h4 : b.length = 2
    · left; rw [if_neg h3, h4]; simp only [Nat.reduceSub, Nat.reduceMul, Nat.reducePow]; omega
    · right; omega
/-- what the reference says of a body that is not empty, of no more than two bytes of bits -/
theorem maskM_ref {b : List UInt8} (h0 : b.length ≠ 0) (hl : b.length ≤ 3) (hx : (b.getD 0 0).toNat < 8) (hn : (b.getD 0 0).toNat ≤ (b.length - 1) * 8) :
    maskM b = if b.length = 1 then (0, 0) else if 2 ^ ((b.length - 1) * 8 - (b.getD 0 0).toNat) ≤ bitsR b ∨ bitsR b < 2 ^ ((b.length - 1) * 8 - (b.getD 0 0).toNat - 1) then (0, 4) else if 32768 ≤ bitsR b then (0, 1) else (bitsR b, 0) := by
  have hy : (b.getD 1 0).toNat < 256 := UInt8.toNat_lt _
  have hz : (b.getD 2 0).toNat < 256 := UInt8.toNat_lt _
  have h1 := rev8_lt hy
  have h2 := rev8_lt hz
  unfold maskM
  rw [if_neg h0, if_neg (by omega)]
  by_cases h1l : b.length = 1
  · rw [if_pos h1l, if_pos h1l]
  rw [if_neg h1l, if_neg h1l]
  have key : (ntz8 (b.getD (b.length - 1) 0).toNat ≠ (b.getD 0 0).toNat) ↔ (2 ^ ((b.length - 1) * 8 - (b.getD 0 0).toNat) ≤ bitsR b ∨ bitsR b < 2 ^ ((b.length - 1) * 8 - (b.getD 0 0).toNat - 1)) := by
    by_cases h3 : b.length = 3
    · rw [h3]
      rw [show 3 - 1 = 2 from rfl, ntz8_iff hz hx]
      unfold bitsR
      rw [if_pos h3]
      generalize hx' : (b.getD 0 0).toNat = x at *
      rw [show 2 * 8 - x = 8 + (8 - x) by omega, show 8 + (8 - x) - 1 = 8 + (7 - x) by omega, Nat.pow_add, Nat.pow_add]
      simp only [Nat.reducePow]
      omega
    · have h2l : b.length = 2 := by omega
      rw [h2l]
      rw [show 2 - 1 = 1 from rfl, ntz8_iff hy hx]
      unfold bitsR
      rw [if_neg h3]
      generalize hx' : (b.getD 0 0).toNat = x at *
      rw [show 1 * 8 - x = 8 - x by omega, show 8 - x - 1 = 7 - x by omega, Nat.mul_zero, Nat.add_zero]
  by_cases hk : ntz8 (b.getD (b.length - 1) 0).toNat ≠ (b.getD 0 0).toNat
  · rw [if_pos hk, if_pos (key.1 hk)]
  · rw [if_neg hk, if_neg (fun h => hk (key.2 h))]
    rfl
theorem shr_natI {M b : Nat} {z : Int} (q : Nat) (hz : z = (q : Int)) (h : q ≤ b) : Int.fdiv ((M : Nat) : Int) (2 ^ (min z.toNat b)) = ((M / 2 ^ q : Nat) : Int) := by
  subst hz; exact shr_nat h
theorem shl1I {z : Int} (i : Nat) (hz : z = (i : Int)) (h : i ≤ 62) : IntKind.i64.wrap (1 * 2 ^ (min z.toNat 64)) = ((2 ^ i : Nat) : Int) := by
  subst hz; exact shl1 h
theorem tab_wrap {k : IntKind} {L T : List UInt8} {i v : Nat} (h : L = T) (hv : (T.getD i 0).toNat = v) (hk : wide8 k = true) : k.wrap ((L.getD i 0).toNat : Int) = ((v : Nat) : Int) := by
  rw [h, hv]; have := UInt8.toNat_lt (T.getD i 0); exact wide8_wrap hk (by omega) (by omega)
/-- the bits of a mask, turned, while its bytes are laid -/
def turnM (m : Nat) : Nat → Nat
  | 0 => rev16 m
  | j + 1 => turnM m j % 256 * 256
def outL (m : Nat) : Nat → List UInt8
  | 0 => [UInt8.ofNat ((8 - bl m % 8) % 8)]
  | j + 1 => outL m j ++ [UInt8.ofNat (turnM m j / 256)]
/-- how many bits there are among the first ones -/
def bp (M : Nat) : Nat → Nat
  | 0 => 0
  | i + 1 => if M / 2 ^ i % 2 = 1 then i + 1 else bp M i
/-- a body's bits as a number of 16 bits, the first one highest -/
def turnedM (b : List UInt8) : Nat := (b.getD 1 0).toNat % 256 * 256 + (if b.length = 3 then (b.getD 2 0).toNat else 0)
theorem turned_rev {b : List UInt8} (h : b.length = 2 ∨ b.length = 3) : turnedM b < 65536 ∧ rev16 (turnedM b) = bitsR b := by
  have h1 : (b.getD 1 0).toNat < 256 := UInt8.toNat_lt _
  have h2 : (b.getD 2 0).toNat < 256 := UInt8.toNat_lt _
  unfold turnedM rev16 bitsR
  generalize (b.getD 1 0).toNat = p at *
  generalize (b.getD 2 0).toNat = q at *
  rcases h with h | h
  · rw [if_neg (by omega), if_neg (by omega), show (p % 256 * 256 + 0) / 256 = p by omega, show (p % 256 * 256 + 0) % 256 = 0 by omega]
    exact ⟨by omega, rfl⟩
  · rw [if_pos h, if_pos h, show (p % 256 * 256 + q) / 256 = p by omega, show (p % 256 * 256 + q) % 256 = q by omega]
    exact ⟨by omega, rfl⟩
end Am
end Go.Proofs.YtgnjjenalebiaaaGreatDoor
