/- Plain facts on days: the functions Leap, Last, Right, Number, Weekday, Between of the package date and Long, Month, Right, Number of the document's answer tell the same number of a day. -/
import Derived.Test.YtojinnnckfimhaaX0
import Derived.Test.YtojinnnckfimhaaXperiodNominal
import Derived.Test.YtojinnnckfimhaaXdateOf
import Derived.Test.YtojinnnckfimhaaXdateBetween
import Derived.Test.YtojinnnckfimhaaXstipendref03Long
import Derived.Test.YtojinnnckfimhaaXstipendref03Number
import Derived.Test.YtojinnnckfimhaaXdateWeekday
namespace Go.Proofs.Ytojinnnckfimhaa.Pure
open Go.RowKit Go.Proofs.Ytojinnnckfimhaa.X Go.Proofs.YtojinnnckfimhaaW.PrintWords Go.Proofs.YtojinnnckfimhaaW.PrintLast

theorem wf64 {x : Int} (h : (Lit.int .i64 x).wf = true) : -9223372036854775808 ≤ x ∧ x ≤ 9223372036854775807 := by
  simp [Lit.wf, IntKind.min, IntKind.max, IntKind.signed, IntKind.bits] at h
  omega
theorem w64 {x : Int} (h : -9223372036854775808 ≤ x ∧ x ≤ 9223372036854775807) : wrap64 x = x := by
  unfold wrap64
  omega
theorem tdivp {a b : Int} (h : 0 ≤ a) : Int.tdiv a b = a / b := Int.tdiv_eq_ediv_of_nonneg h
theorem tmodp {a b : Int} (h : 0 ≤ a) : Int.tmod a b = a % b := Int.tmod_eq_emod_of_nonneg h
/-- Is a year a leap one? -/
def lp (y : Int) : Int := if y % 4 = 0 then (if y % 100 = 0 then (if y % 400 = 0 then 1 else 0) else 1) else 0
theorem lp_01 (y : Int) : lp y = 0 ∨ lp y = 1 := by
  unfold lp
  repeat' split
  all_goals simp
/-- How many days a month has. -/
def dim (y m : Int) : Int :=
  if m = 2 then 28 + lp y else if m = 4 ∨ m = 6 ∨ m = 9 ∨ m = 11 then 30 else if 1 ≤ m ∧ m ≤ 12 then 31 else 0
theorem dim_bd (y m : Int) (h : 1 ≤ m ∧ m ≤ 12) : 28 ≤ dim y m ∧ dim y m ≤ 31 := by
  have := lp_01 y
  unfold dim
  repeat' split
  all_goals omega
theorem dim_no (y m : Int) (h : ¬ (1 ≤ m ∧ m ≤ 12)) : dim y m = 0 := by
  unfold dim
  rw [if_neg (by omega), if_neg (by omega), if_neg (by omega)]
def yok (y : Int) : Prop := 1900 ≤ y ∧ y ≤ 2199
instance (y : Int) : Decidable (yok y) := by unfold yok; exact inferInstance
def last (y m : Int) : Int := if yok y then dim y m else 0
/-- Is there such a day? -/
def ok (y m d : Int) : Prop := yok y ∧ 1 ≤ d ∧ d ≤ dim y m
instance (y m d : Int) : Decidable (ok y m d) := by unfold ok; exact inferInstance
theorem ok_m {y m d : Int} (h : ok y m d) : 1 ≤ m ∧ m ≤ 12 := by
  obtain ⟨_, h1, h2⟩ := h
  by_cases hm : 1 ≤ m ∧ m ≤ 12
  · exact hm
  · rw [dim_no y m hm] at h2; omega
theorem ok_bd {y m d : Int} (h : ok y m d) : 1900 ≤ y ∧ y ≤ 2199 ∧ 1 ≤ m ∧ m ≤ 12 ∧ 1 ≤ d ∧ d ≤ dim y m ∧ d ≤ 31 := by
  have hm := ok_m h
  have hd := dim_bd y m hm
  obtain ⟨⟨h0, h0'⟩, h1, h2⟩ := h
  exact ⟨h0, h0', hm.1, hm.2, h1, h2, by omega⟩
/-- The days ahead of a year, and ahead of a month of it. -/
def dby (y : Int) : Int := 365 * (y - 1900) + (y - 1) / 4 - (y - 1) / 100 + (y - 1) / 400 - 460
def cum (y m : Int) : Int := if 2 < m then (153 * (m - 3) + 2) / 5 + 59 + lp y else 31 * (m - 1)
/-- A day's number. -/
def num (y m d : Int) : Int := dby y + cum y m + d - 1
theorem dby_succ (y : Int) : dby (y + 1) = dby y + 365 + lp y := by
  unfold dby lp
  repeat' split
  all_goals omega
theorem cum_succ (y m : Int) (h : 1 ≤ m ∧ m ≤ 12) : cum y (m + 1) = cum y m + dim y m := by
  obtain rfl | rfl | rfl | rfl | rfl | rfl | rfl | rfl | rfl | rfl | rfl | rfl : m = 1 ∨ m = 2 ∨ m = 3 ∨ m = 4 ∨ m = 5 ∨ m = 6 ∨ m = 7 ∨ m = 8 ∨ m = 9 ∨ m = 10 ∨ m = 11 ∨ m = 12 := by omega
  all_goals simp [cum, dim]
  all_goals omega
theorem cum_13 (y : Int) : cum y 13 = 365 + lp y := by simp [cum]
theorem cum_1 (y : Int) : cum y 1 = 0 := by simp [cum]
theorem cum_mono (y m : Int) : ∀ (k : Nat), 1 ≤ m → m + k ≤ 13 → cum y m ≤ cum y (m + k) := by
  intro k
  induction k with
  | zero => intro _ _; simp
  | succ k ih =>
    intro h1 h2
    have := ih h1 (by omega)
    have h3 := cum_succ y (m + k) (by omega)
    have h4 := dim_bd y (m + k) (by omega)
    rw [show m + ((k + 1 : Nat) : Int) = m + k + 1 by omega, h3]
    omega
theorem cum_le (y : Int) {a b : Int} (h1 : 1 ≤ a) (h2 : a ≤ b) (h3 : b ≤ 13) : cum y a ≤ cum y b := by
  have := cum_mono y a (b - a).toNat h1 (by omega)
  rwa [show a + ((b - a).toNat : Int) = b by omega] at this
theorem dby_le {a b : Int} (h : a ≤ b) : dby a ≤ dby b := by unfold dby; omega
theorem dby_lt {a b : Int} (h : a < b) : dby a + 365 ≤ dby b := by
  have h1 := dby_succ a
  have h2 := lp_01 a
  have h3 := dby_le (show a + 1 ≤ b by omega)
  omega
theorem dby_1900 : dby 1900 = 0 := by decide
theorem dby_2200 : dby 2200 = 109573 := by decide
theorem num_bd {y m d : Int} (h : ok y m d) : dby y ≤ num y m d ∧ num y m d < dby (y + 1) := by
  have hb := ok_bd h
  have h1 := cum_succ y m (by omega)
  have h2 := cum_le y (a := m + 1) (b := 13) (by omega) (by omega) (by omega)
  have h3 := cum_le y (a := 1) (b := m) (by omega) (by omega) (by omega)
  have h4 := cum_13 y
  have h5 := cum_1 y
  have h6 := dby_succ y
  unfold num
  omega
theorem num_range {y m d : Int} (h : ok y m d) : 0 ≤ num y m d ∧ num y m d < 109573 := by
  have hb := ok_bd h
  have h1 := num_bd h
  have h2 := dby_le hb.1
  have h3 := dby_le (show y + 1 ≤ 2200 by omega)
  rw [dby_1900] at h2
  rw [dby_2200] at h3
  omega
/-- Two days are in order as their numbers are. -/
theorem num_lt {y m d y' m' d' : Int} (h : ok y m d) (h' : ok y' m' d') (hl : y < y' ∨ y = y' ∧ (m < m' ∨ m = m' ∧ d < d')) : num y m d < num y' m' d' := by
  have hb := ok_bd h
  have hb' := ok_bd h'
  rcases hl with hl | ⟨rfl, hl | ⟨rfl, hl⟩⟩
  · have h1 := num_bd h
    have h2 := num_bd h'
    have h3 := dby_le (show y + 1 ≤ y' by omega)
    omega
  · have h1 := cum_succ y m (by omega)
    have h2 := cum_le y (a := m + 1) (b := m') (by omega) (by omega) (by omega)
    unfold num
    omega
  · unfold num
    omega
theorem num_inj {y m d y' m' d' : Int} (h : ok y m d) (h' : ok y' m' d') (he : num y m d = num y' m' d') : y = y' ∧ m = m' ∧ d = d' := by
  rcases Int.lt_trichotomy y y' with h1 | h1 | h1
  · have := num_lt h h' (Or.inl h1); omega
  · rcases Int.lt_trichotomy m m' with h2 | h2 | h2
    · have := num_lt h h' (Or.inr ⟨h1, Or.inl h2⟩); omega
    · rcases Int.lt_trichotomy d d' with h3 | h3 | h3
      · have := num_lt h h' (Or.inr ⟨h1, Or.inr ⟨h2, h3⟩⟩); omega
      · exact ⟨h1, h2, h3⟩
      · have := num_lt h' h (Or.inr ⟨h1.symm, Or.inr ⟨h2.symm, h3⟩⟩); omega
    · have := num_lt h' h (Or.inr ⟨h1.symm, Or.inl h2⟩); omega
  · have := num_lt h' h (Or.inl h1); omega
theorem leap_ok {y : Int} (h : 0 ≤ y) : date_Leap.f y = some (decide (lp y = 1)) := by
  unfold date_Leap.f lp
  rw [tmodp h, tmodp h, tmodp h]
  by_cases h1 : y % 4 = 0
  · by_cases h2 : y % 100 = 0
    · by_cases h3 : y % 400 = 0 <;> simp [h1, h2, h3]
    · simp [h1, h2]
  · simp [h1]
theorem long_ok {y : Int} (h : 0 ≤ y) : stipendref03_Long.f y = some (365 + lp y) := by
  unfold stipendref03_Long.f lp
  rw [tmodp h, tmodp h, tmodp h]
  by_cases h1 : y % 4 = 0
  · by_cases h2 : y % 100 = 0
    · by_cases h3 : y % 400 = 0 <;> simp [h1, h2, h3]
    · simp [h1, h2]
  · simp [h1]; omega
theorem last_ok {y m : Int} {k : Nat} (hk : 3 ≤ k) : date_Last.f k y m = some (last y m) := by
  obtain ⟨k, rfl⟩ : ∃ n, k = n + 3 := ⟨k - 3, by omega⟩
  unfold date_Last.f last
  by_cases hy : yok y
  · have hy' := hy
    unfold yok at hy'
    have hl := leap_ok (y := y) (by omega)
    rw [if_neg (by omega), show decide (y > 2199) = false by simp; omega]
    simp only [date_Last.j0, Bool.false_eq_true, if_false, hy, if_true]
    unfold dim
    have h01 := lp_01 y
    by_cases h12 : 1 ≤ m ∧ m ≤ 12
    · obtain rfl | rfl | rfl | rfl | rfl | rfl | rfl | rfl | rfl | rfl | rfl | rfl : m = 1 ∨ m = 2 ∨ m = 3 ∨ m = 4 ∨ m = 5 ∨ m = 6 ∨ m = 7 ∨ m = 8 ∨ m = 9 ∨ m = 10 ∨ m = 11 ∨ m = 12 := by omega
      all_goals simp [date_Last.j1, date_Last.j2, hl]
      rcases h01 with h | h <;> simp [h]
    · have e : ∀ c : Int, 1 ≤ c → c ≤ 12 → ¬ m = c := fun c _ _ h => h12 (by omega)
      have e1 := e 1 (by omega) (by omega)
      have e2 := e 2 (by omega) (by omega)
      have e3 := e 3 (by omega) (by omega)
      have e4 := e 4 (by omega) (by omega)
      have e5 := e 5 (by omega) (by omega)
      have e6 := e 6 (by omega) (by omega)
      have e7 := e 7 (by omega) (by omega)
      have e8 := e 8 (by omega) (by omega)
      have e9 := e 9 (by omega) (by omega)
      have e10 := e 10 (by omega) (by omega)
      have e11 := e 11 (by omega) (by omega)
      have e12 := e 12 (by omega) (by omega)
      simp [date_Last.j1, date_Last.j2, e1, e2, e3, e4, e5, e6, e7, e8, e9, e10, e11, e12, h12]
  · have hy' := hy
    unfold yok at hy'
    rw [if_neg hy]
    by_cases h1 : y < 1900
    · rw [if_pos h1]; simp [date_Last.j0]
    · rw [if_neg h1, show decide (y > 2199) = true by simp; omega]; simp [date_Last.j0]
theorem ok_last {y m d : Int} : ok y m d ↔ 1 ≤ d ∧ d ≤ last y m := by
  unfold ok last
  by_cases hy : yok y
  · simp [hy]
  · simp only [hy, false_and, if_false, false_iff]
    omega
theorem right_ok {y m d : Int} {k : Nat} (hk : 3 ≤ k) : date_Right.f k y m d = some (decide (ok y m d)) := by
  unfold date_Right.f
  rw [last_ok hk]
  by_cases h : d ≥ 1
  · rw [if_pos h]
    simp only [Option.bind_some, ok_last, show 1 ≤ d from h, true_and]
  · rw [if_neg h]
    simp only [ok_last]
    congr 1
    simp
    omega
theorem leaps_ok {y : Int} (h : 1900 ≤ y ∧ y ≤ 2200) : date_leaps.f y = some ((y - 1) / 4 - (y - 1) / 100 + (y - 1) / 400) := by
  unfold date_leaps.f
  have e1 : wrap64 (y - 1) = y - 1 := w64 (by omega)
  rw [e1, tdivp (by omega), tdivp (by omega), tdivp (by omega), w64 (x := (y - 1) / 4) (by omega), w64 (x := (y - 1) / 100) (by omega), w64 (x := (y - 1) / 400) (by omega),
    w64 (x := (y - 1) / 4 - (y - 1) / 100) (by omega), w64 (by omega)]
theorem before_ok {m : Int} (h : 1 ≤ m ∧ m ≤ 12) : date_before.f m = some (if 2 < m then (153 * (m - 3) + 2) / 5 + 59 else 31 * (m - 1)) := by
  unfold date_before.f
  by_cases h2 : m > 2
  · rw [if_pos h2, if_pos (by omega), w64 (x := m - 3) (by omega), w64 (x := 153 * (m - 3)) (by omega), w64 (x := 153 * (m - 3) + 2) (by omega), tdivp (by omega),
      w64 (x := (153 * (m - 3) + 2) / 5) (by omega), w64 (by omega)]
  · rw [if_neg h2, if_neg (by omega), w64 (x := m - 1) (by omega), w64 (by omega)]
theorem number_ok {y m d : Int} {k : Nat} (hk : 3 ≤ k) : date_Number.f k y m d = some (if ok y m d then (num y m d, 0) else (0, 30)) := by
  unfold date_Number.f
  rw [right_ok hk]
  simp only [Option.bind_some, decide_eq_true_eq]
  by_cases h : ok y m d
  · have hb := ok_bd h
    have h01 := lp_01 y
    rw [if_pos h, if_pos h, leaps_ok (y := y) (by omega), leaps_ok (y := 1900) (by omega), before_ok (by omega)]
    simp only [Option.bind_some]
    have e0 : wrap64 (y - 1900) = y - 1900 := w64 (by omega)
    have e1 : wrap64 (365 * (y - 1900)) = 365 * (y - 1900) := w64 (by omega)
    have e2 : wrap64 (365 * (y - 1900) + ((y - 1) / 4 - (y - 1) / 100 + (y - 1) / 400)) = 365 * (y - 1900) + ((y - 1) / 4 - (y - 1) / 100 + (y - 1) / 400) := w64 (by omega)
    have e3 : wrap64 (365 * (y - 1900) + ((y - 1) / 4 - (y - 1) / 100 + (y - 1) / 400) - ((1900 - 1) / 4 - (1900 - 1) / 100 + (1900 - 1) / 400)) = dby y := by
      rw [w64 (by omega)]; unfold dby; omega
    have hd1 : 0 ≤ dby y ∧ dby y ≤ 109573 := by
      have a1 := dby_le hb.1
      have a2 := dby_le (show y ≤ 2200 by omega)
      rw [dby_1900] at a1
      rw [dby_2200] at a2
      omega
    rw [e0, e1, e2, e3]
    by_cases h2 : m > 2
    · rw [if_pos h2, if_pos (by omega), leap_ok (by omega), w64 (x := dby y + ((153 * (m - 3) + 2) / 5 + 59)) (by omega), w64 (x := dby y + ((153 * (m - 3) + 2) / 5 + 59) + d) (by omega), w64 (x := dby y + ((153 * (m - 3) + 2) / 5 + 59) + d - 1) (by omega)]
      simp only [Option.bind_some, decide_eq_true_eq]
      unfold num cum
      rw [if_pos (by omega : 2 < m)]
      rcases h01 with h0 | h0
      · rw [if_neg (by omega), h0]; congr 2; omega
      · rw [if_pos h0, h0, w64 (by omega)]; congr 2; omega
    · rw [if_neg h2, if_neg (by omega), w64 (x := dby y + 31 * (m - 1)) (by omega), w64 (x := dby y + 31 * (m - 1) + d) (by omega), w64 (by omega)]
      unfold num cum
      rw [if_neg (by omega : ¬ 2 < m)]
  · rw [if_neg h, if_neg h]
theorem weekday_ok {y m d : Int} {k : Nat} (hk : 3 ≤ k) : date_Weekday.f k y m d = some (if ok y m d then (num y m d % 7, 0) else (0, 30)) := by
  unfold date_Weekday.f
  rw [number_ok hk]
  by_cases h : ok y m d
  · have := num_range h
    simp only [h, if_true, Option.bind_some]
    rw [tmodp this.1]
  · simp [h]
theorem between_ok {y m d y' m' d' : Int} {k : Nat} (hk : 3 ≤ k) : date_Between.f k y m d y' m' d' = some (if ok y m d ∧ ok y' m' d' then (num y' m' d' - num y m d, 0) else (0, 30)) := by
  unfold date_Between.f
  rw [number_ok hk, number_ok hk]
  by_cases h : ok y m d
  · by_cases h' : ok y' m' d'
    · have := num_range h
      have := num_range h'
      simp only [h, h', and_self, if_true, Option.bind_some]
      rw [w64 (by omega)]
    · simp [h, h']
  · simp only [h, false_and, if_false, Option.bind_some]
    rfl
theorem month_ok {y m : Int} : stipendref03_Month.f y m = some (last y m) := by
  unfold stipendref03_Month.f last
  by_cases hm : 1 ≤ m ∧ m ≤ 12
  · rw [if_neg (by omega), if_neg (by omega)]
    by_cases hy : yok y
    · have hy' := hy
      unfold yok at hy'
      have h01 := lp_01 y
      rw [if_neg (by omega), if_neg (by omega), long_ok (by omega), if_pos hy]
      simp only [Option.bind_some]
      rw [w64 (x := m - 1) (by omega), w64 (x := 365 + lp y - 337) (by omega), if_pos (by omega), if_pos (by simp; omega)]
      obtain rfl | rfl | rfl | rfl | rfl | rfl | rfl | rfl | rfl | rfl | rfl | rfl : m = 1 ∨ m = 2 ∨ m = 3 ∨ m = 4 ∨ m = 5 ∨ m = 6 ∨ m = 7 ∨ m = 8 ∨ m = 9 ∨ m = 10 ∨ m = 11 ∨ m = 12 := by omega
      all_goals simp [rd, dim]
      omega
    · have hy' := hy
      unfold yok at hy'
      rw [if_neg hy]
      by_cases h1 : y < 1900
      · rw [if_pos h1]
      · rw [if_neg h1, if_pos (by omega)]
  · rw [dim_no y m hm]
    by_cases h1 : m < 1
    · rw [if_pos h1]; simp
    · rw [if_neg h1, if_pos (by omega)]; simp
theorem rright_ok {y m d : Int} : stipendref03_Right.f y m d = some (decide (ok y m d)) := by
  unfold stipendref03_Right.f
  rw [month_ok]
  by_cases h : d ≥ 1
  · rw [if_pos h]
    simp only [Option.bind_some, ok_last, show 1 ≤ d from h, true_and]
  · rw [if_neg h]
    simp only [ok_last]
    congr 1
    simp
    omega
theorem rnumber_l1 {y m d : Int} (hy : yok y) (hm : 1 ≤ m ∧ m ≤ 12) : ∀ (j : Nat) (k : Nat) (x i : Int), i + j = m → 1 ≤ i → j < k → -1 ≤ x → x + 31 * j ≤ 9000000 →
    stipendref03_Number.l1 k x i y m d = some (x + cum y m - cum y i) := by
  intro j
  induction j with
  | zero =>
    intro k x i hi _ hk _ _
    obtain ⟨k, rfl⟩ : ∃ n, k = n + 1 := ⟨k - 1, by omega⟩
    simp only [stipendref03_Number.l1]
    rw [if_neg (by omega), show i = m by omega]
    congr 1
    omega
  | succ j ih =>
    intro k x i hi h1 hk hx hx2
    obtain ⟨k, rfl⟩ : ∃ n, k = n + 1 := ⟨k - 1, by omega⟩
    have hd := dim_bd y i (by omega)
    have hc := cum_succ y i (by omega)
    have hl : last y i = dim y i := by unfold last; rw [if_pos hy]
    simp only [stipendref03_Number.l1]
    rw [if_pos (by omega), month_ok, hl]
    simp only [Option.bind_some]
    rw [w64 (x := x + dim y i) (by omega), w64 (x := i + 1) (by omega), ih k (x + dim y i) (i + 1) (by omega) (by omega) (by omega) (by omega) (by omega), hc]
    congr 1
    omega
theorem rnumber_l0 {y m d : Int} (hy : yok y) (hm : 1 ≤ m ∧ m ≤ 12) : ∀ (j : Nat) (k : Nat) (x i : Int), i + j = y → 1900 ≤ i → j + 13 < k → -1 ≤ x → x + 366 * j ≤ 8000000 →
    stipendref03_Number.l0 k x i y m d = some (x + dby y - dby i + cum y m) := by
  have hy' := hy
  unfold yok at hy'
  intro j
  induction j with
  | zero =>
    intro k x i hi _ hk hx hx2
    obtain ⟨k, rfl⟩ : ∃ n, k = n + 1 := ⟨k - 1, by omega⟩
    simp only [stipendref03_Number.l0]
    rw [if_neg (by omega), rnumber_l1 hy hm (m - 1).toNat k x 1 (by omega) (by omega) (by omega) hx (by omega), cum_1, show i = y by omega]
    congr 1
    omega
  | succ j ih =>
    intro k x i hi h1 hk hx hx2
    obtain ⟨k, rfl⟩ : ∃ n, k = n + 1 := ⟨k - 1, by omega⟩
    have h01 := lp_01 i
    have hs := dby_succ i
    simp only [stipendref03_Number.l0]
    rw [if_pos (by omega), long_ok (by omega)]
    simp only [Option.bind_some]
    rw [w64 (x := x + (365 + lp i)) (by omega), w64 (x := i + 1) (by omega), ih k (x + (365 + lp i)) (i + 1) (by omega) (by omega) (by omega) (by omega) (by omega), hs]
    congr 1
    omega
/-- The document's number of a day. -/
theorem rnumber_ok {y m d : Int} {k : Nat} (hk : 400 ≤ k) : stipendref03_Number.f k y m d = some (if ok y m d then num y m d else -1) := by
  unfold stipendref03_Number.f
  rw [rright_ok]
  simp only [Option.bind_some, decide_eq_true_eq]
  by_cases h : ok y m d
  · have hb := ok_bd h
    rw [if_pos h, if_pos h, w64 (x := d - 1) (by omega), rnumber_l0 h.1 (ok_m h) (y - 1900).toNat k (d - 1) 1900 (by omega) (by omega) (by omega) (by omega) (by omega), dby_1900]
    congr 1
    unfold num
    omega
  · rw [if_neg h, if_neg h]
/-- The day of a number: found year by year. -/
theorem of_l1 {y : Int} (hy : yok y) : ∀ (j : Nat) (k : Nat) (r m : Int), m + j = 12 → 1 ≤ m → j + 4 < k → 0 ≤ r → r < cum y 13 - cum y m →
    ∃ m' d', date_Of.l1 k r y m 1 = some (y, m', d', 0) ∧ ok y m' d' ∧ cum y m' + d' - 1 = cum y m + r := by
  intro j
  induction j with
  | zero =>
    intro k r m hm h1 hk hr hr2
    obtain ⟨k, rfl⟩ : ∃ n, k = n + 1 := ⟨k - 1, by omega⟩
    obtain rfl : m = 12 := by omega
    have hc := cum_succ y 12 (by omega)
    have hl : last y 12 = dim y 12 := by unfold last; rw [if_pos hy]
    have hd := dim_bd y 12 (by omega)
    rw [show (12 : Int) + 1 = 13 from rfl] at hc
    simp only [date_Of.l1]
    rw [last_ok (by omega), hl]
    simp only [Option.bind_some]
    rw [if_neg (by omega), w64 (by omega)]
    exact ⟨12, 1 + r, rfl, ⟨hy, by omega, by omega⟩, by omega⟩
  | succ j ih =>
    intro k r m hm h1 hk hr hr2
    obtain ⟨k, rfl⟩ : ∃ n, k = n + 1 := ⟨k - 1, by omega⟩
    have hc := cum_succ y m (by omega)
    have hl : last y m = dim y m := by unfold last; rw [if_pos hy]
    have hd := dim_bd y m (by omega)
    have h01 := lp_01 y
    have h13 := cum_13 y
    have h0 := cum_le y (a := 1) (b := m) (by omega) (by omega) (by omega)
    rw [cum_1] at h0
    simp only [date_Of.l1]
    rw [last_ok (by omega), hl]
    simp only [Option.bind_some]
    by_cases hge : r ≥ dim y m
    · rw [if_pos hge, w64 (x := r - dim y m) (by omega), w64 (x := m + 1) (by omega)]
      obtain ⟨m', d', h1', h2', h3'⟩ := ih k (r - dim y m) (m + 1) (by omega) (by omega) (by omega) (by omega) (by omega)
      exact ⟨m', d', h1', h2', by omega⟩
    · rw [if_neg hge, w64 (by omega)]
      exact ⟨m, 1 + r, rfl, ⟨hy, by omega, by omega⟩, by omega⟩
theorem of_j2 {n y : Int} (hy : yok y) (h1 : dby y ≤ n) (h2 : n < dby (y + 1)) (k : Nat) (hk : 20 ≤ k) :
    ∃ m' d', date_Of.j2 k n y 1 1 = some (y, m', d', 0) ∧ ok y m' d' ∧ num y m' d' = n := by
  obtain ⟨k, rfl⟩ : ∃ n, k = n + 1 := ⟨k - 1, by omega⟩
  have hy' := hy
  unfold yok at hy'
  have hs := dby_succ y
  have h13 := cum_13 y
  have h01 := lp_01 y
  have hok : ok y 1 1 := ⟨hy, by omega, by have := dim_bd y 1 (by omega); omega⟩
  have hn : num y 1 1 = dby y := by unfold num; rw [cum_1]; omega
  have hr := num_range hok
  obtain ⟨m', d', e1, e2, e3⟩ := of_l1 hy 11 k (n - dby y) 1 (by omega) (by omega) (by omega) (by omega) (by rw [cum_1]; omega)
  refine ⟨m', d', ?_, e2, ?_⟩
  · simp only [date_Of.j2]
    rw [number_ok (by omega), if_pos hok, hn]
    simp only [Option.bind_some]
    rw [w64 (by omega), e1]
  · unfold num
    rw [cum_1] at e3
    omega
theorem of_l0 {n : Int} : ∀ (j : Nat) (k : Nat) (y : Int), y + j ≤ 2199 → n < dby (y + j + 1) → 1900 ≤ y → j + 25 < k → dby y ≤ n →
    ∃ y' m' d', date_Of.l0 k n y 1 1 = some (y', m', d', 0) ∧ ok y' m' d' ∧ num y' m' d' = n := by
  intro j
  induction j with
  | zero =>
    intro k y hy hn h1 hk hd
    obtain ⟨k, rfl⟩ : ∃ n, k = n + 1 := ⟨k - 1, by omega⟩
    rw [show y + ((0 : Nat) : Int) + 1 = y + 1 by omega] at hn
    obtain ⟨m', d', e⟩ := of_j2 (n := n) (y := y) (by unfold yok; omega) hd hn k (by omega)
    refine ⟨y, m', d', ?_, e.2⟩
    simp only [date_Of.l0]
    by_cases hl : y < 2199
    · have hok : ok (y + 1) 1 1 := ⟨by unfold yok; omega, by omega, by have := dim_bd (y + 1) 1 (by omega); omega⟩
      have hnn : num (y + 1) 1 1 = dby (y + 1) := by unfold num; rw [cum_1]; omega
      rw [if_pos hl, w64 (x := y + 1) (by omega), number_ok (by omega), if_pos hok, hnn]
      simp only [Option.bind_some]
      rw [if_pos (by omega), e.1]
    · rw [if_neg hl, e.1]
  | succ j ih =>
    intro k y hy hn h1 hk hd
    obtain ⟨k, rfl⟩ : ∃ n, k = n + 1 := ⟨k - 1, by omega⟩
    have hok : ok (y + 1) 1 1 := ⟨by unfold yok; omega, by omega, by have := dim_bd (y + 1) 1 (by omega); omega⟩
    have hnn : num (y + 1) 1 1 = dby (y + 1) := by unfold num; rw [cum_1]; omega
    simp only [date_Of.l0]
    rw [if_pos (by omega), w64 (x := y + 1) (by omega), number_ok (by omega), if_pos hok, hnn]
    simp only [Option.bind_some]
    by_cases hgt : dby (y + 1) > n
    · obtain ⟨m', d', e⟩ := of_j2 (n := n) (y := y) (by unfold yok; omega) hd (by omega) k (by omega)
      rw [if_pos hgt]
      exact ⟨y, m', d', e.1, e.2⟩
    · rw [if_neg hgt]
      rw [show y + ((j + 1 : Nat) : Int) + 1 = y + 1 + (j : Int) + 1 by omega] at hn
      exact ih k (y + 1) (by omega) hn (by omega) (by omega) (by omega)
theorem of_no {n : Int} (h : n < 0 ∨ 109573 ≤ n) {k : Nat} (hk : 40 ≤ k) : date_Of.f k n = some (0, 0, 0, 30) := by
  obtain ⟨k, rfl⟩ : ∃ n, k = n + 1 := ⟨k - 1, by omega⟩
  unfold date_Of.f
  by_cases h0 : n < 0
  · rw [if_pos h0]; simp [date_Of.j0]
  · rw [if_neg h0, show decide (n ≥ 109573) = true by simp; omega]; simp [date_Of.j0]
/-- The day of a number has that number. -/
theorem of_ok {n : Int} (h : 0 ≤ n ∧ n < 109573) {k : Nat} (hk : 40 ≤ k) : ∃ y m d, date_Of.f k n = some (y, m, d, 0) ∧ ok y m d ∧ num y m d = n := by
  obtain ⟨k, rfl⟩ : ∃ n, k = n + 1 := ⟨k - 1, by omega⟩
  unfold date_Of.f
  rw [if_neg (by omega), show decide (n ≥ 109573) = false by simp; omega]
  simp only [date_Of.j0, Bool.false_eq_true, if_false]
  rw [tdivp (by omega), w64 (x := n / 366) (by omega), w64 (x := 1900 + n / 366) (by omega)]
  by_cases hl : 1900 + n / 366 < 2199
  · exact of_l0 1 k (1900 + n / 366) (by omega) (by unfold dby; omega) (by omega) (by omega) (by unfold dby; omega)
  · refine of_l0 0 k (1900 + n / 366) (by omega) ?_ (by omega) (by omega) (by unfold dby; omega)
    rw [show 1900 + n / 366 + ((0 : Nat) : Int) + 1 = 2200 by omega, dby_2200]
    omega
end Go.Proofs.Ytojinnnckfimhaa.Pure
