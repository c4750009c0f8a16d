/- Chapter 6, plain: the calendar: leap years, months, days since 1970, dates of moments; what both texts compute is the same. -/
import Derived.WalkKit
namespace Go.Proofs.YtmlnipbeancnpaaDoor.Cal
set_option linter.unusedVariables false

structure D6 where
  y : Int
  m : Int
  d : Int
  h : Int
  mi : Int
  s : Int

def leapM (y : Int) : Bool := y % 4 == 0 && (y % 100 != 0 || y % 400 == 0)
theorem leapM_eq (y : Int) : leapM y = decide (y % 4 = 0 ∧ (y % 100 ≠ 0 ∨ y % 400 = 0)) := by
  rw [Bool.eq_iff_iff]; simp [leapM]
theorem tmod0 (a b : Int) : a.tmod b = 0 ↔ a % b = 0 := by
  rw [← Int.dvd_iff_tmod_eq_zero, Int.dvd_iff_emod_eq_zero]
def daysM (y m : Int) : Int :=
  if m = 4 ∨ m = 6 ∨ m = 9 ∨ m = 11 then 30 else if m = 2 then (if leapM y then 29 else 28) else if m < 1 ∨ m > 12 then 0 else 31
theorem days_bd (y m : Int) (h1 : 1 ≤ m) (h2 : m ≤ 12) : 28 ≤ daysM y m ∧ daysM y m ≤ 31 := by
  unfold daysM; repeat' split
  all_goals omega
theorem days_le (y m : Int) : 0 ≤ daysM y m ∧ daysM y m ≤ 31 := by
  unfold daysM; repeat' split
  all_goals omega
theorem days_pos {y m d : Int} (h1 : 1 ≤ d) (h2 : d ≤ daysM y m) : 1 ≤ m ∧ m ≤ 12 := by
  unfold daysM at h2; repeat' split at h2
  all_goals omega
/-- days from the beginning of 1970 to that of a year -/
def bf (y : Int) : Int := 365 * (y - 1) + (y - 1) / 4 - (y - 1) / 100 + (y - 1) / 400 + 306 - 719468
theorem bf_1970 : bf 1970 = 0 := by decide
theorem bf_succ (y : Int) : bf (y + 1) = bf y + 365 + if leapM y then 1 else 0 := by
  have e : (leapM y = true) ↔ (y % 4 = 0 ∧ (y % 100 ≠ 0 ∨ y % 400 = 0)) := by simp [leapM]
  by_cases h : leapM y = true
  · rw [if_pos h]; rw [e] at h; unfold bf; omega
  · rw [if_neg h]; rw [e] at h; unfold bf; omega
theorem bf_mono {a b : Int} (h : a ≤ b) : bf a ≤ bf b := by unfold bf; omega
theorem bf_bd (y : Int) (h1 : 1970 ≤ y) (h2 : y ≤ 10000) : 0 ≤ bf y ∧ bf y ≤ 2932897 := by unfold bf; omega
/-- days of a year before a month -/
def cum (y m : Int) : Int :=
  if m ≤ 2 then 31 * (m - 1) else (153 * (m - 3) + 2) / 5 + 59 + (if leapM y then 1 else 0)
theorem cum_one (y : Int) : cum y 1 = 0 := by simp [cum]
theorem cum_succ (y m : Int) (h1 : 1 ≤ m) (h2 : m ≤ 12) : cum y (m + 1) = cum y m + daysM y m := by
  have : m = 1 ∨ m = 2 ∨ m = 3 ∨ m = 4 ∨ m = 5 ∨ m = 6 ∨ m = 7 ∨ m = 8 ∨ m = 9 ∨ m = 10 ∨ m = 11 ∨ m = 12 := by omega
  rcases this with h | h | h | h | h | h | h | h | h | h | h | h <;> subst h <;> simp [cum, daysM] <;> split <;> omega
theorem cum_13 (y : Int) : bf y + cum y 13 = bf (y + 1) := by
  rw [bf_succ]; simp [cum]; split <;> omega
theorem cum_mono {y a b : Int} (h0 : 1 ≤ a) (h : a ≤ b) (h1 : b ≤ 13) : cum y a ≤ cum y b := by
  unfold cum; repeat' split
  all_goals omega
theorem cum_bd (y m : Int) (h1 : 1 ≤ m) (h2 : m ≤ 13) : 0 ≤ cum y m ∧ cum y m ≤ 366 := by
  unfold cum; repeat' split
  all_goals omega
/-- the number of a day -/
def dn (y m d : Int) : Int := bf y + cum y m + d - 1

/-- the program's number of a day -/
theorem dn_prog (y m d : Int) (h1 : 1 ≤ m) (h2 : m ≤ 12) :
    365 * (if m - 3 < 0 then y - 1 else y) + (if m - 3 < 0 then y - 1 else y) / 4 - (if m - 3 < 0 then y - 1 else y) / 100 + (if m - 3 < 0 then y - 1 else y) / 400 + (153 * (if m - 3 < 0 then m - 3 + 12 else m - 3) + 2) / 5 + d - 1 - 719468 = dn y m d := by
  have e : (leapM y = true) ↔ (y % 4 = 0 ∧ (y % 100 ≠ 0 ∨ y % 400 = 0)) := by simp [leapM]
  by_cases h : m - 3 < 0
  · simp only [if_pos h]
    have : m = 1 ∨ m = 2 := by omega
    rcases this with h | h <;> subst h <;> simp [dn, bf, cum] <;> omega
  · simp only [if_neg h]
    unfold dn bf cum
    rw [if_neg (by omega)]
    by_cases hl : leapM y = true
    · rw [if_pos hl]; rw [e] at hl; omega
    · rw [if_neg hl]; rw [e] at hl; omega

/-- right dates -/
def RightP (x : D6) : Prop := 1970 ≤ x.y ∧ x.y ≤ 9999 ∧ 1 ≤ x.d ∧ x.d ≤ daysM x.y x.m ∧ 0 ≤ x.h ∧ x.h < 24 ∧ 0 ≤ x.mi ∧ x.mi < 60 ∧ 0 ≤ x.s ∧ x.s < 60
instance (x : D6) : Decidable (RightP x) := by unfold RightP; infer_instance
def secM (x : D6) : Int := ((dn x.y x.m x.d * 24 + x.h) * 60 + x.mi) * 60 + x.s

theorem dn_bd {y m d : Int} (h1 : 1970 ≤ y) (h2 : y ≤ 9999) (h3 : 1 ≤ d) (h4 : d ≤ daysM y m) : bf y ≤ dn y m d ∧ dn y m d < bf (y + 1) ∧ 1 ≤ m ∧ m ≤ 12 ∧ cum y m ≤ dn y m d - bf y ∧ dn y m d - bf y < cum y (m + 1) := by
  obtain ⟨hm1, hm2⟩ := days_pos h3 h4
  have h5 := cum_succ y m hm1 hm2
  have h6 := cum_13 y
  have h7 := cum_mono (y := y) (a := m + 1) (b := 13) (by omega) (by omega) (by omega)
  have h8 := cum_bd y m hm1 (by omega)
  unfold dn
  omega
/-- a day's number tells the day -/
theorem dn_inj {y m d y' m' d' : Int} (a1 : 1970 ≤ y) (a2 : y ≤ 9999) (a3 : 1 ≤ d) (a4 : d ≤ daysM y m) (b1 : 1970 ≤ y') (b2 : y' ≤ 9999) (b3 : 1 ≤ d') (b4 : d' ≤ daysM y' m') (h : dn y m d = dn y' m' d') : y = y' ∧ m = m' ∧ d = d' := by
  obtain ⟨p1, p2, p3, p4, p5, p6⟩ := dn_bd a1 a2 a3 a4
  obtain ⟨q1, q2, q3, q4, q5, q6⟩ := dn_bd b1 b2 b3 b4
  rw [h] at p1 p2 p5 p6
  have hy : y = y' := by
    rcases Int.lt_trichotomy y y' with hlt | heq | hlt
    · have := bf_mono (a := y + 1) (b := y') (by omega); omega
    · exact heq
    · have := bf_mono (a := y' + 1) (b := y) (by omega); omega
  subst hy
  have hm : m = m' := by
    rcases Int.lt_trichotomy m m' with hlt | heq | hlt
    · have := cum_mono (y := y) (a := m + 1) (b := m') (by omega) (by omega) (by omega); omega
    · exact heq
    · have := cum_mono (y := y) (a := m' + 1) (b := m) (by omega) (by omega) (by omega); omega
  subst hm
  refine ⟨rfl, rfl, ?_⟩
  unfold dn at h
  omega

/-- the year within 400 of them -/
theorem dec_c (n : Int) (h0 : 0 ≤ n) (h1 : n < 146097) : ∃ c r : Int, n = 36524 * c + r ∧ 0 ≤ c ∧ c ≤ 3 ∧ 0 ≤ r ∧ (r < 36524 ∨ (c = 3 ∧ r = 36524)) := by
  by_cases h : n = 146096
  · exact ⟨3, 36524, by omega, by omega, by omega, by omega, .inr ⟨rfl, rfl⟩⟩
  · exact ⟨n / 36524, n % 36524, by omega, by omega, by omega, by omega, .inl (by omega)⟩
theorem dec_k (v : Int) (h0 : 0 ≤ v) (h1 : v < 1461) : ∃ k e : Int, v = 365 * k + e ∧ 0 ≤ k ∧ k ≤ 3 ∧ 0 ≤ e ∧ (e < 365 ∨ (k = 3 ∧ e = 365)) := by
  by_cases h : v = 1460
  · exact ⟨3, 365, by omega, by omega, by omega, by omega, .inr ⟨rfl, rfl⟩⟩
  · exact ⟨v / 365, v % 365, by omega, by omega, by omega, by omega, .inl (by omega)⟩
theorem div_1460 (c q v : Int) (hc : 0 ≤ c) (hc3 : c ≤ 3) (hq : 0 ≤ q) (hq24 : q ≤ 24) (hv : 0 ≤ v) (hv2 : v ≤ 1460) : ∃ z, (36524 * c + 1461 * q + v) / 1460 = 25 * c + q + z ∧ ((z = 0 ∧ 24 * c + q + v < 1460) ∨ (z = 1 ∧ 1460 ≤ 24 * c + q + v)) := by
  by_cases h : 24 * c + q + v < 1460
  · exact ⟨0, by omega, .inl ⟨rfl, h⟩⟩
  · exact ⟨1, by omega, .inr ⟨rfl, by omega⟩⟩
theorem div_cent (c r : Int) (hc : 0 ≤ c) (hc3 : c ≤ 3) (h0 : 0 ≤ r) (h : r < 36524 ∨ (c = 3 ∧ r = 36524)) : (36524 * c + r) / 36524 - (36524 * c + r) / 146096 = c := by
  rcases h with h | ⟨rfl, rfl⟩
  · have e1 : (36524 * c + r) / 36524 = c := by omega
    have e2 : (36524 * c + r) / 146096 = 0 := by omega
    omega
  · decide
theorem year_lin (c q k e z : Int) (hc : 0 ≤ c) (hc3 : c ≤ 3) (hq : 0 ≤ q) (hq24 : q ≤ 24) (hk0 : 0 ≤ k) (hk3 : k ≤ 3) (he0 : 0 ≤ e) (he : e < 365 ∨ (k = 3 ∧ e = 365)) (hz : (z = 0 ∧ 24 * c + q + (365 * k + e) < 1460) ∨ (z = 1 ∧ 1460 ≤ 24 * c + q + (365 * k + e))) :
    ((36524 * c + 1461 * q + (365 * k + e)) - (25 * c + q + z) + c) / 365 = 100 * c + 4 * q + k := by
  have h1 : 0 ≤ e - z ∧ e - z < 365 := by
    rcases hz with ⟨rfl, hz⟩ | ⟨rfl, hz⟩ <;> rcases he with he | ⟨rfl, rfl⟩ <;> omega
  have h2 : (36524 * c + 1461 * q + (365 * k + e)) - (25 * c + q + z) + c = (100 * c + 4 * q + k) * 365 + (e - z) := by omega
  rw [h2]
  omega
theorem arr4 (a b c d : Int) : a - b + c - d = a - b + (c - d) := by omega
theorem year_up (c q k e : Int) (hc : 0 ≤ c) (hc3 : c ≤ 3) (hq : 0 ≤ q) (hq24 : q ≤ 24) (hk0 : 0 ≤ k) (hk3 : k ≤ 3) (he : e < 365 ∨ (k = 3 ∧ e = 365)) (hr : 1461 * q + (365 * k + e) < 36524 ∨ c = 3) :
    36524 * c + (1461 * q + (365 * k + e)) < 365 * (100 * c + 4 * q + k + 1) + (100 * c + 4 * q + k + 1) / 4 - (100 * c + 4 * q + k + 1) / 100 + (if 100 * c + 4 * q + k = 399 then 1 else 0) := by
  by_cases hk : k = 3
  · subst hk
    have e10 : (100 * c + 4 * q + 3 + 1) / 4 = 25 * c + q + 1 := by clear he hr; omega
    rw [e10]
    have he' : e ≤ 365 := by omega
    clear he
    by_cases hq' : q = 24
    · subst hq'
      have e11 : (100 * c + 4 * 24 + 3 + 1) / 100 = c + 1 := by clear hr; omega
      rw [e11]
      split
      · clear hr; omega
      · have : ¬ c = 3 := by rename_i h; omega
        have hr' := hr.resolve_right this
        clear hr
        omega
    · have e11 : (100 * c + 4 * q + 3 + 1) / 100 = c := by clear hr; omega
      rw [e11]
      clear hr
      split <;> omega
  · have he' : e < 365 := by
      rcases he with h | h
      · exact h
      · exact absurd h.1 hk
    clear he hr
    have e10 : (100 * c + 4 * q + k + 1) / 4 = 25 * c + q := by omega
    have e11 : (100 * c + 4 * q + k + 1) / 100 = c := by omega
    rw [e10, e11]
    split <;> omega
def yr (n : Int) : Int := (n - n / 1460 + n / 36524 - n / 146096) / 365
theorem year_eq {n c r q v k e : Int} (hn : n = 36524 * c + r) (hc : 0 ≤ c) (hc3 : c ≤ 3) (hr0 : 0 ≤ r) (hr : r < 36524 ∨ (c = 3 ∧ r = 36524)) (hr2 : r = 1461 * q + v) (hq : 0 ≤ q) (hq24 : q ≤ 24) (hv : 0 ≤ v) (hv2 : v < 1461) (hv3 : v = 365 * k + e) (hk0 : 0 ≤ k) (hk3 : k ≤ 3) (he0 : 0 ≤ e) (he : e < 365 ∨ (k = 3 ∧ e = 365)) : yr n = 100 * c + 4 * q + k := by
  obtain ⟨z, hz, hz2⟩ := div_1460 c q v hc hc3 hq hq24 hv (Int.le_of_lt_add_one hv2)
  have e1 := div_cent c r hc hc3 hr0 hr
  show (n - n / 1460 + n / 36524 - n / 146096) / 365 = _
  have e3 : n / 36524 - n / 146096 = c := by rw [hn]; exact e1
  have e4 : n / 1460 = 25 * c + q + z := by rw [hn, hr2, ← Int.add_assoc]; exact hz
  have e5 := year_lin c q k e z hc hc3 hq hq24 hk0 hk3 he0 he (by rw [← hv3]; exact hz2)
  rw [arr4, e3, e4, hn, hr2, hv3, ← Int.add_assoc]
  exact e5
theorem dec_q (r : Int) (h0 : 0 ≤ r) (h1 : r ≤ 36524) : ∃ q v : Int, r = 1461 * q + v ∧ 0 ≤ q ∧ q ≤ 24 ∧ 0 ≤ v ∧ v < 1461 := ⟨r / 1461, r % 1461, by omega, by omega, by omega, by omega, by omega⟩
theorem year_lo {c q k : Int} (hc : 0 ≤ c) (hc3 : c ≤ 3) (hq : 0 ≤ q) (hq24 : q ≤ 24) (hk0 : 0 ≤ k) (hk3 : k ≤ 3) : 0 ≤ 100 * c + 4 * q + k ∧ 100 * c + 4 * q + k ≤ 399 ∧ 365 * (100 * c + 4 * q + k) + (100 * c + 4 * q + k) / 4 - (100 * c + 4 * q + k) / 100 = 36524 * c + 1461 * q + 365 * k := by
  have e7 : (100 * c + 4 * q + k) / 4 = 25 * c + q := by omega
  have e8 : (100 * c + 4 * q + k) / 100 = c := by clear e7; omega
  refine ⟨by clear e7 e8; omega, by clear e7 e8; omega, ?_⟩
  rw [e7, e8]
  clear e7 e8
  omega
theorem year_of (n : Int) (h0 : 0 ≤ n) (h1 : n < 146097) :
    0 ≤ yr n ∧ yr n ≤ 399 ∧ 365 * yr n + yr n / 4 - yr n / 100 ≤ n ∧ n < 365 * (yr n + 1) + (yr n + 1) / 4 - (yr n + 1) / 100 + (if yr n = 399 then 1 else 0) := by
  obtain ⟨c, r, hn, hc, hc3, hr0, hr⟩ := dec_c n h0 h1
  have hr1 : r ≤ 36524 := by
    rcases hr with h | h
    · exact Int.le_of_lt h
    · exact Int.le_of_eq h.2
  obtain ⟨q, v, hr2, hq, hq24, hv, hv2⟩ := dec_q r hr0 hr1
  obtain ⟨k, e, hv3, hk0, hk3, he0, he⟩ := dec_k v hv hv2
  rw [year_eq hn hc hc3 hr0 hr hr2 hq hq24 hv hv2 hv3 hk0 hk3 he0 he]
  have hup := year_up c q k e hc hc3 hq hq24 hk0 hk3 he (by
    rw [← hv3, ← hr2]
    rcases hr with h | h
    · exact .inl h
    · exact .inr h.1)
  rw [← hv3, ← hr2, ← hn] at hup
  obtain ⟨l1, l2, l3⟩ := year_lo hc hc3 hq hq24 hk0 hk3
  refine ⟨l1, l2, ?_, hup⟩
  rw [l3]
  clear hup l1 l2 l3 hr he
  omega

theorem n2_bd (r : Int) (h0 : 0 ≤ r) (h1 : r < 146097) : 0 ≤ r - (365 * yr r + yr r / 4 - yr r / 100) ∧ r - (365 * yr r + yr r / 4 - yr r / 100) ≤ 365 := by
  obtain ⟨y0, y1, y2, y3⟩ := year_of r h0 h1
  generalize yr r = y at *
  split at y3 <;> omega
/-- the program's date of a day's number -/
structure Parts where
  ages : Int
  y : Int
  m : Int
  d : Int
def partsM (N : Int) : Parts :=
  let n := N + 719468
  let r := n % 146097
  let y := yr r
  let n2 := r - (365 * y + y / 4 - y / 100)
  let m := (5 * n2 + 2) / 153
  ⟨n / 146097, y, m, n2 - (153 * m + 2) / 5 + 1⟩
def yOf (N : Int) : Int := (partsM N).ages * 400 + (partsM N).y + if (partsM N).m + 3 > 12 then 1 else 0
def mOf (N : Int) : Int := if (partsM N).m + 3 > 12 then (partsM N).m + 3 - 12 else (partsM N).m + 3
def dOf (N : Int) : Int := (partsM N).d

theorem succ_4 (y : Int) : (y + 1) / 4 = y / 4 + if (y + 1) % 4 = 0 then 1 else 0 := by split <;> omega
theorem succ_100 (y : Int) : (y + 1) / 100 = y / 100 + if (y + 1) % 100 = 0 then 1 else 0 := by split <;> omega
theorem parts_bd (N : Int) (h0 : 0 ≤ N) (h1 : N ≤ 2932896) : 4 ≤ (partsM N).ages ∧ (partsM N).ages ≤ 24 ∧ 0 ≤ (partsM N).y ∧ (partsM N).y ≤ 399 ∧ 0 ≤ (partsM N).m ∧ (partsM N).m ≤ 11 ∧ 1 ≤ (partsM N).d ∧ (partsM N).d ≤ 31 ∧
    365 * (partsM N).y + (partsM N).y / 4 - (partsM N).y / 100 + 146097 * (partsM N).ages + (153 * (partsM N).m + 2) / 5 + (partsM N).d - 1 = N + 719468 ∧
    ((partsM N).m = 11 → (partsM N).d ≤ 28 + (if ((partsM N).y + 1) % 4 = 0 ∧ (((partsM N).y + 1) % 100 ≠ 0 ∨ ((partsM N).y + 1) % 400 = 0) then 1 else 0)) ∧ (((partsM N).m = 1 ∨ (partsM N).m = 3 ∨ (partsM N).m = 6 ∨ (partsM N).m = 8) → (partsM N).d ≤ 30) := by
  obtain ⟨n, hn⟩ : ∃ n, n = N + 719468 := ⟨_, rfl⟩
  obtain ⟨r, hr⟩ : ∃ r, r = n % 146097 := ⟨_, rfl⟩
  have hyo := year_of r (by omega) (by omega)
  obtain ⟨y, hy⟩ : ∃ y, y = yr r := ⟨_, rfl⟩
  rw [← hy] at hyo
  obtain ⟨y0, y1, y2, y3⟩ := hyo
  obtain ⟨n2, hn2⟩ : ∃ n2, n2 = r - (365 * y + y / 4 - y / 100) := ⟨_, rfl⟩
  obtain ⟨m, hm⟩ : ∃ m, m = (5 * n2 + 2) / 153 := ⟨_, rfl⟩
  have e : partsM N = ⟨n / 146097, y, m, n2 - (153 * m + 2) / 5 + 1⟩ := by
    simp only [partsM, ← hn, ← hr, ← hy, ← hn2, ← hm]
  rw [e]
  simp only
  have hlen : 0 ≤ n2 ∧ n2 ≤ 365 := by split at y3 <;> omega
  have hlast : n2 = 365 → ((y + 1) % 4 = 0 ∧ ((y + 1) % 100 ≠ 0 ∨ (y + 1) % 400 = 0)) := by
    intro h
    rw [succ_4, succ_100] at y3
    by_cases h4 : (y + 1) % 4 = 0
    · refine ⟨h4, ?_⟩
      rw [if_pos h4] at y3
      by_cases h100 : (y + 1) % 100 = 0
      · rw [if_pos h100] at y3
        by_cases h399 : y = 399
        · subst h399; exact .inr (by decide)
        · rw [if_neg h399] at y3
          omega
      · exact .inl h100
    · rw [if_neg h4] at y3
      by_cases h399 : y = 399
      · subst h399; exact absurd (by decide) h4
      · rw [if_neg h399] at y3
        split at y3 <;> omega
  have hm' : 0 ≤ m ∧ m ≤ 11 := by omega
  refine ⟨by omega, by omega, y0, y1, hm'.1, hm'.2, by omega, by omega, by omega, ?_, by omega⟩
  intro h11
  subst h11
  split
  · omega
  · rename_i hno
    have : n2 ≠ 365 := fun h => hno (hlast h)
    omega

theorem leap_400 (A Y : Int) : leapM (A * 400 + Y) = leapM Y := by
  unfold leapM
  have e4 : (A * 400 + Y) % 4 = Y % 4 := by omega
  have e100 : (A * 400 + Y) % 100 = Y % 100 := by omega
  have e400 : (A * 400 + Y) % 400 = Y % 400 := by omega
  rw [e4, e100, e400]
theorem day_ok (y M D : Int) (m1 : 0 ≤ M) (m2 : M ≤ 11) (d2 : D ≤ 31) (h11 : M = 11 → D ≤ 28 + if leapM y then 1 else 0) (h30 : M = 1 ∨ M = 3 ∨ M = 6 ∨ M = 8 → D ≤ 30) : D ≤ daysM y (if M + 3 > 12 then M + 3 - 12 else M + 3) := by
  by_cases e11 : M = 11
  · subst e11
    have := h11 rfl
    rw [if_pos (by decide)]
    simp only [daysM]
    rw [if_neg (by decide), if_pos (by decide)]
    split at this <;> (rename_i hl; simp [hl]; omega)
  · clear h11
    have hne : (if M + 3 > 12 then M + 3 - 12 else M + 3) ≠ 2 := by split <;> omega
    have hr : ¬ ((if M + 3 > 12 then M + 3 - 12 else M + 3) < 1 ∨ (if M + 3 > 12 then M + 3 - 12 else M + 3) > 12) := by split <;> omega
    have h4 : ((if M + 3 > 12 then M + 3 - 12 else M + 3) = 4 ∨ (if M + 3 > 12 then M + 3 - 12 else M + 3) = 6 ∨ (if M + 3 > 12 then M + 3 - 12 else M + 3) = 9 ∨ (if M + 3 > 12 then M + 3 - 12 else M + 3) = 11) → (M = 1 ∨ M = 3 ∨ M = 6 ∨ M = 8) := by split <;> omega
    generalize (if M + 3 > 12 then M + 3 - 12 else M + 3) = q at *
    unfold daysM
    by_cases hq : q = 4 ∨ q = 6 ∨ q = 9 ∨ q = 11
    · rw [if_pos hq]; exact h30 (h4 hq)
    · rw [if_neg hq, if_neg hne, if_neg hr]; exact d2
theorem of_right (N : Int) (h0 : 0 ≤ N) (h1 : N ≤ 2932896) : 1970 ≤ yOf N ∧ yOf N ≤ 9999 ∧ 1 ≤ dOf N ∧ dOf N ≤ daysM (yOf N) (mOf N) ∧ dn (yOf N) (mOf N) (dOf N) = N := by
  obtain ⟨a1, a2, y1, y2, m1, m2, d1, d2, hN, h11, h30⟩ := parts_bd N h0 h1
  obtain ⟨A, Y, M, D, hp⟩ : ∃ A Y M D, partsM N = ⟨A, Y, M, D⟩ := ⟨_, _, _, _, rfl⟩
  have hy : yOf N = A * 400 + Y + if M + 3 > 12 then 1 else 0 := by simp only [yOf, hp]
  have hm : mOf N = if M + 3 > 12 then M + 3 - 12 else M + 3 := by simp only [mOf, hp]
  have hd : dOf N = D := by simp only [dOf, hp]
  rw [hp] at a1 a2 y1 y2 m1 m2 d1 d2 hN h11 h30
  simp only at a1 a2 y1 y2 m1 m2 d1 d2 hN h11 h30
  rw [hy, hm, hd]
  have key : dn (A * 400 + Y + if M + 3 > 12 then 1 else 0) (if M + 3 > 12 then M + 3 - 12 else M + 3) D = N := by
    rw [← dn_prog _ _ _ (by split <;> omega) (by split <;> omega)]
    have e4 : (A * 400 + Y) / 4 = 100 * A + Y / 4 := by clear h11 h30 hN; omega
    have e100 : (A * 400 + Y) / 100 = 4 * A + Y / 100 := by clear h11 h30 hN e4; omega
    have e400 : (A * 400 + Y) / 400 = A := by clear h11 h30 hN e4 e100; omega
    by_cases h : M + 3 > 12
    · simp only [if_pos h]
      rw [if_pos (by omega), if_pos (by omega), show A * 400 + Y + 1 - 1 = A * 400 + Y by omega, e4, e100, e400, show M + 3 - 12 - 3 + 12 = M by omega]
      clear h11 h30 e4 e100 e400
      omega
    · simp only [if_neg h]
      rw [if_neg (by omega), if_neg (by omega), Int.add_zero, e4, e100, e400, show M + 3 - 3 = M by omega]
      clear h11 h30 e4 e100 e400
      omega
  have hday : D ≤ daysM (A * 400 + Y + if M + 3 > 12 then 1 else 0) (if M + 3 > 12 then M + 3 - 12 else M + 3) := by
    refine day_ok _ M D m1 m2 d2 (fun h => ?_) h30
    have := h11 h
    subst h
    have e : (A * 400 + Y + if (11 : Int) + 3 > 12 then 1 else 0) = A * 400 + (Y + 1) := by simp; omega
    rw [e, leap_400]
    simpa [leapM] using this
  refine ⟨?_, ?_, d1, hday, key⟩
  · rcases Int.lt_or_le (A * 400 + Y + if M + 3 > 12 then 1 else 0) 1970 with h | h
    · have e1 := days_pos d1 hday
      have e2 := cum_succ (A * 400 + Y + if M + 3 > 12 then 1 else 0) _ e1.1 e1.2
      have e3 := cum_mono (y := A * 400 + Y + if M + 3 > 12 then 1 else 0) (a := (if M + 3 > 12 then M + 3 - 12 else M + 3) + 1) (b := 13) (by omega) (by omega) (by omega)
      have e4 := cum_13 (A * 400 + Y + if M + 3 > 12 then 1 else 0)
      have e5 := bf_mono (a := (A * 400 + Y + if M + 3 > 12 then 1 else 0) + 1) (b := 1970) (by omega)
      have e6 := bf_1970
      unfold dn at key
      omega
    · exact h
  · rcases Int.lt_or_le 9999 (A * 400 + Y + if M + 3 > 12 then 1 else 0) with h | h
    · have e1 := days_pos d1 hday
      have e3 := cum_bd (A * 400 + Y + if M + 3 > 12 then 1 else 0) _ e1.1 (by omega)
      have e5 := bf_mono (a := 10000) (b := A * 400 + Y + if M + 3 > 12 then 1 else 0) (by omega)
      have e6 : bf 10000 = 2932897 := by decide
      unfold dn at key
      omega
    · exact h

def inT (t : Int) : Prop := 0 ≤ t ∧ t ≤ 253402300799
instance (t : Int) : Decidable (inT t) := by unfold inT; infer_instance
def D6.zero : D6 := ⟨0, 0, 0, 0, 0, 0⟩
def ofR (t : Int) : D6 := ⟨yOf (t / 86400), mOf (t / 86400), dOf (t / 86400), t % 86400 / 3600, t % 86400 % 3600 / 60, t % 86400 % 60⟩
def ofM (t : Int) : D6 := if inT t then ofR t else D6.zero
def ofE (t : Int) : Nat := if inT t then 0 else 1
theorem ofR_right {t : Int} (h : inT t) : RightP (ofR t) ∧ secM (ofR t) = t := by
  obtain ⟨h0, h1⟩ := h
  obtain ⟨p1, p2, p3, p4, p5⟩ := of_right (t / 86400) (by omega) (by omega)
  refine ⟨⟨p1, p2, p3, p4, ?_⟩, ?_⟩
  · simp only [ofR]; omega
  · show ((dn (yOf (t / 86400)) (mOf (t / 86400)) (dOf (t / 86400)) * 24 + t % 86400 / 3600) * 60 + t % 86400 % 3600 / 60) * 60 + t % 86400 % 60 = t
    rw [p5]; omega
theorem sec_bd {x : D6} (h : RightP x) : inT (secM x) := by
  obtain ⟨a1, a2, a3, a4, a5, a6, a7, a8, a9, a10⟩ := h
  obtain ⟨p1, p2, _⟩ := dn_bd a1 a2 a3 a4
  have e1 := bf_mono (a := 1970) (b := x.y) a1
  have e2 := bf_mono (a := x.y + 1) (b := 10000) (by omega)
  have e3 := bf_1970
  have e6 : bf 10000 = 2932897 := by decide
  unfold inT secM
  omega
theorem of_sec {x : D6} (h : RightP x) : ofR (secM x) = x := by
  have ht := sec_bd h
  obtain ⟨hr, hs⟩ := ofR_right ht
  obtain ⟨a1, a2, a3, a4, a5, a6, a7, a8, a9, a10⟩ := h
  obtain ⟨b1, b2, b3, b4, b5, b6, b7, b8, b9, b10⟩ := hr
  generalize ofR (secM x) = z at *
  obtain ⟨y, m, d, hh, mi, s⟩ := x
  obtain ⟨y', m', d', hh', mi', s'⟩ := z
  simp only [secM] at *
  have e1 : s' = s := by omega
  subst e1
  have e2 : mi' = mi := by omega
  subst e2
  have e3 : hh' = hh := by omega
  subst e3
  have e4 : dn y' m' d' = dn y m d := by omega
  obtain ⟨rfl, rfl, rfl⟩ := dn_inj b1 b2 b3 b4 a1 a2 a3 a4 e4
  rfl
end Go.Proofs.YtmlnipbeancnpaaDoor.Cal
