/- The law PeriodPays, over numbers alone: a period is paid on a workday that isn't behind its last day, by no more than two days; quarters never go back, and all four come; all periods' days are the year's. -/
import Derived.Test.YtojinnnckfimhaaX0
import Derived.Test.YtojinnnckfimhaaXperiodYearStart
import Derived.Test.YtojinnnckfimhaaXstipendref03Months
import Derived.Test.YtojinnnckfimhaaXperiodYearPayDay
import Derived.Test.YtojinnnckfimhaaXstipendlaw04PeriodPays
import Derived.Test.YtojinnnckfimhaaMYear
import Derived.Test.YtojinnnckfimhaaMCuts
import Derived.Test.YtojinnnckfimhaaMBack
namespace Go.Proofs.Ytojinnnckfimhaa.Pure
open Go.RowKit Go.Proofs.Ytojinnnckfimhaa.X Go.Proofs.YtojinnnckfimhaaW.PrintWords Go.Proofs.YtojinnnckfimhaaW.PrintLast

theorem mday_up {y m d : Int} (ho : ok y m d) (hy : y + 1 ≤ 2199) : ∀ (j : Nat) (a : Int), 0 ≤ a → a + j ≤ 12 → mday y m d a + j ≤ mday y m d (a + j) := by
  intro j
  induction j with
  | zero => intro a _ _; rw [show a + ((0 : Nat) : Int) = a by omega]; omega
  | succ j ih =>
    intro a h1 h2
    have := ih a h1 (by omega)
    have := mday_step ho hy (j := a + j) (by omega)
    rw [show a + ((j + 1 : Nat) : Int) = a + j + 1 by omega]
    omega
theorem mday_le {y m d a b : Int} (ho : ok y m d) (hy : y + 1 ≤ 2199) (h1 : 0 ≤ a) (h2 : a ≤ b) (h3 : b ≤ 12) : mday y m d a + (b - a) ≤ mday y m d b := by
  have := mday_up ho hy (b - a).toNat a h1 (by omega)
  rw [show a + ((b - a).toNat : Int) = b by omega] at this
  omega
theorem mday_0 {y m d : Int} (ho : ok y m d) : mday y m d 0 = num y m d := by
  have hb := ok_bd ho
  unfold mday
  rw [show (12 * y + m - 1 + 0) / 12 = y by omega, show (12 * y + m - 1 + 0) % 12 + 1 = m by omega, mn_of_le ho.2.2]
theorem mday_12 {f y m d ey em ed n c : Int} (h : YS f y m d ey em ed n c) : mday y m d 12 = n + c := by
  have hb := ok_bd h.ho
  unfold mday
  rw [show (12 * y + m - 1 + 12) / 12 = y + 1 by omega, show (12 * y + m - 1 + 12) % 12 + 1 = m by omega, mn_of_le (ys_next h).2.2, h.hc]
/-- In which quarter of the year a number is. -/
def Qt (y m d v q : Int) : Prop := 1 ≤ q ∧ q ≤ 4 ∧ (q = 1 ∨ mday y m d (3 * (q - 1)) ≤ v) ∧ (q = 4 ∨ v < mday y m d (3 * q))
theorem qt_mono {y m d v v' q q' : Int} (ho : ok y m d) (hy : y + 1 ≤ 2199) (h : Qt y m d v q) (h' : Qt y m d v' q') (hv : v ≤ v') : q ≤ q' := by
  obtain ⟨a1, a2, a3, a4⟩ := h
  obtain ⟨b1, b2, b3, b4⟩ := h'
  by_cases hq : q ≤ q'
  · exact hq
  · have := mday_le ho hy (a := 3 * q') (b := 3 * (q - 1)) (by omega) (by omega) (by omega)
    omega
theorem quarter_l0 {f y m d ey em ed n c v : Int} (h : YS f y m d ey em ed n c) : ∀ (j : Nat) (q : Int) (K : Nat), 1 ≤ q → q + j = 4 → (q = 1 ∨ mday y m d (3 * (q - 1)) ≤ v) → j + 20 ≤ K →
    ∃ q', period_Year_Quarter.l0 K v q f y m d ey em ed n c = some (q', 0, f, y, m, d, ey, em, ed, n, c) ∧ Qt y m d v q' := by
  intro j
  induction j with
  | zero =>
    intro q K h1 hq hv hK
    obtain ⟨K, rfl⟩ : ∃ q, K = q + 1 := ⟨K - 1, by omega⟩
    refine ⟨q, ?_, h1, by omega, hv, Or.inl (by omega)⟩
    simp only [period_Year_Quarter.l0]
    rw [if_neg (by omega)]
  | succ j ih =>
    intro q K h1 hq hv hK
    obtain ⟨K, rfl⟩ : ∃ q, K = q + 1 := ⟨K - 1, by omega⟩
    have hj : 0 ≤ 3 * q ∧ 3 * q ≤ 12 := by omega
    have hm := mday_ok h.ho h.hy hj
    simp only [period_Year_Quarter.l0]
    rw [if_pos (by omega), w64 (x := 3 * q) (by omega), w64 (x := q + 1) (by omega), short_ok h.ho h.hy hj (by omega)]
    simp only [Option.bind_some]
    rw [number_ok (by omega), if_pos hm]
    simp only [Option.bind_some]
    by_cases hl : v < mday y m d (3 * q)
    · have hl' := hl
      unfold mday at hl'
      rw [if_pos hl']
      exact ⟨q, rfl, h1, by omega, hv, Or.inr hl⟩
    · have hl' := hl
      unfold mday at hl'
      rw [if_neg hl']
      exact ih (q + 1) K (by omega) (by omega) (Or.inr (by rw [show q + 1 - 1 = q by omega]; omega)) (by omega)
theorem quarter_ok {f y m d ey em ed n c k : Int} (h : YS f y m d ey em ed n c) (hk : 1 ≤ k ∧ k ≤ cnt f) {K : Nat} (hK : 60 ≤ K) :
    ∃ q, period_Year_Quarter.f K f y m d ey em ed n c k = some (q, 0, f, y, m, d, ey, em, ed, n, c) ∧ Qt y m d (bgn f y m d n c (k + 1) - 1) q := by
  obtain ⟨a, b, e, a', b', e', s1, s2, s3, s4, s5⟩ := span_ok h hk hK
  unfold period_Year_Quarter.f
  rw [s1]
  simp only [Option.bind_some, if_true]
  rw [number_ok (by omega), if_pos s4, s5]
  simp only [Option.bind_some]
  exact quarter_l0 h 3 1 K (by omega) (by omega) (Or.inl rfl) (by omega)
theorem quarter_no {f y m d ey em ed n c k : Int} (h : YS f y m d ey em ed n c) (hk : ¬ (1 ≤ k ∧ k ≤ cnt f)) {K : Nat} (hK : 60 ≤ K) :
    period_Year_Quarter.f K f y m d ey em ed n c k = some (0, 1, f, y, m, d, ey, em, ed, n, c) := by
  unfold period_Year_Quarter.f
  rw [span_no h hk hK]
  rfl
theorem payday_no {f y m d ey em ed n c k : Int} (h : YS f y m d ey em ed n c) (hk : ¬ (1 ≤ k ∧ k ≤ cnt f)) {K : Nat} (hK : 60 ≤ K) :
    period_Year_PayDay.f K f y m d ey em ed n c k = some (0, 0, 0, 1, f, y, m, d, ey, em, ed, n, c) := by
  unfold period_Year_PayDay.f
  rw [span_no h hk hK]
  rfl
theorem days_no {f y m d ey em ed n c k : Int} (h : YS f y m d ey em ed n c) (hk : ¬ (1 ≤ k ∧ k ≤ cnt f)) {K : Nat} (hK : 60 ≤ K) :
    period_Year_Days.f K f y m d ey em ed n c k = some (0, 1, f, y, m, d, ey, em, ed, n, c) := by
  unfold period_Year_Days.f
  rw [span_no h hk hK]
  rfl
theorem rmon {y m d j : Int} (ho : ok y m d) (hy : y + 1 ≤ 2199) (hj : 0 ≤ j ∧ j ≤ 12) {K : Nat} (hK : 11000 ≤ K) :
    ∃ a b e, stipendref03_Months.f K y m d j = some (a, b, e, true) ∧ ok a b e ∧ num a b e = mday y m d j := by
  have hm := mday_ok ho hy hj
  have h := (rmonths_ok ho (b := j) (by omega) hK).1 hm.1
  exact ⟨_, _, _, h, hm, rfl⟩
theorem lastw_bd {v : Int} : lastw v ≤ v ∧ v ≤ lastw v + 2 ∧ lastw v % 7 < 5 := by
  unfold lastw
  split
  · omega
  · split <;> omega
theorem pp_l0 {f y m d ey em ed n c : Int} (h : YS f y m d ey em ed n c) : ∀ (j : Nat) (k last : Int) (K : Nat), 1 ≤ k → k + j = cnt f + 1 → Qt y m d (bgn f y m d n c k - 1) last → 4 * j + 11500 ≤ K →
    stipendlaw04_PeriodPays.l0 K (bgn f y m d n c k - n) last k y m d f y m d ey em ed n c = some true := by
  have hc := ys_c h
  have hn := ys_n h
  have hen := h.hen
  have hcb := cnt_bd h.f1 h.f4
  have hnn := h.hn
  intro j
  induction j with
  | zero =>
    intro k last K h1 hk hq hK
    obtain ⟨K, rfl⟩ : ∃ q, K = q + 1 := ⟨K - 1, by omega⟩
    obtain rfl : k = cnt f + 1 := by omega
    rw [bgn_end h] at hq ⊢
    have h9 := mday_le h.ho h.hy (a := 9) (b := 12) (by omega) (by omega) (by omega)
    rw [mday_12 h] at h9
    have hl4 : last = 4 := by
      have h3 := mday_le h.ho h.hy (a := 3 * last) (b := 9)
      obtain ⟨q1, q2, q3, q4⟩ := hq
      omega
    simp only [stipendlaw04_PeriodPays.l0]
    rw [count_ok h]
    simp only [Option.bind_some]
    rw [if_neg (by omega)]
    unfold period_Year_Start.f period_Year_End.f
    simp only [Option.bind_some]
    rw [between_ok (by omega), if_pos ⟨h.ho, h.he⟩]
    simp only [Option.bind_some]
    rw [payday_no h (by omega) (by omega)]
    simp only [Option.bind_some]
    rw [count_ok h]
    simp only [Option.bind_some]
    rw [w64 (x := cnt f + 1) (by omega), quarter_no h (by omega) (by omega)]
    simp only [Option.bind_some]
    rw [days_no h (by omega) (by omega)]
    simp only [Option.bind_some]
    rw [w64 (by omega), if_pos (by omega), if_pos hl4, if_pos trivial]
    rfl
  | succ j ih =>
    intro k last K h1 hk hq hK
    obtain ⟨K, rfl⟩ : ∃ q, K = q + 1 + 1 + 1 + 1 := ⟨K - 4, by omega⟩
    have r1 := bgn_rng h (k := k) (by omega)
    have r2 := bgn_rng h (k := k + 1) (by omega)
    have r3 := bgn_step h (k := k) (by omega)
    obtain ⟨p, q, r, p', q', r', s1, s2, s3, s4, s5⟩ := span_ok h (k := k) (by omega) (K := K + 1 + 1 + 1) (by omega)
    obtain ⟨x, b1, b2⟩ := quarter_ok h (k := k) (by omega) (K := K + 1 + 1 + 1) (by omega)
    obtain ⟨u, v, w, c1, c2, c3⟩ := back_ok s4 (k := K + 1 + 1 + 1) (by omega)
    have hw := lastw_bd (v := num p' q' r')
    have hqm := qt_mono h.ho h.hy hq b2 (by omega)
    have hx1 := b2.1
    have hx4 := b2.2.1
    have epay : period_Year_PayDay.f (K + 1 + 1 + 1) f y m d ey em ed n c k = some (u, v, w, 0, f, y, m, d, ey, em, ed, n, c) := by
      unfold period_Year_PayDay.f
      rw [s1]
      simp only [Option.bind_some, if_true]
      rw [c1]
      rfl
    have edays : period_Year_Days.f (K + 1 + 1 + 1) f y m d ey em ed n c k = some (bgn f y m d n c (k + 1) - bgn f y m d n c k, 0, f, y, m, d, ey, em, ed, n, c) := by
      unfold period_Year_Days.f
      rw [s1]
      simp only [Option.bind_some, if_true]
      rw [between_ok (by omega), if_pos ⟨s2, s4⟩, s3, s5]
      simp only [Option.bind_some]
      rw [w64 (by omega), show bgn f y m d n c (k + 1) - 1 - bgn f y m d n c k + 1 = bgn f y m d n c (k + 1) - bgn f y m d n c k by omega]
    simp only [stipendlaw04_PeriodPays.l0]
    rw [count_ok h]
    simp only [Option.bind_some]
    rw [if_pos (by omega), s1]
    simp only [Option.bind_some]
    rw [epay]
    simp only [Option.bind_some]
    rw [b1]
    simp only [Option.bind_some]
    rw [edays]
    simp only [Option.bind_some]
    rw [if_neg (by decide)]
    simp only [stipendlaw04_PeriodPays.j1, Bool.false_eq_true, if_false]
    rw [between_ok (by omega), if_pos ⟨c2, s4⟩, workday_ok (by omega)]
    simp only [Option.bind_some]
    rw [if_pos (by decide +kernel), if_pos (decide_eq_true (by rw [c3]; exact ⟨c2, hw.2.2⟩)), if_neg (by omega), if_neg (by omega), if_neg (by omega), if_neg (by omega), decide_eq_false (by omega)]
    simp only [stipendlaw04_PeriodPays.j2, Bool.false_eq_true, if_false]
    rw [w64 (x := x - 1) (by omega), w64 (x := 3 * (x - 1)) (by omega), w64 (x := 3 * x) (by omega)]
    obtain ⟨a1, a2, a3, m1, m2, m3⟩ := rmon h.ho h.hy (j := 3 * (x - 1)) (by omega) (K := K + 1) (by omega)
    obtain ⟨d1, d2, d3, n1, n2, n3⟩ := rmon h.ho h.hy (j := 3 * x) (by omega) (K := K + 1) (by omega)
    rw [m1, n1]
    simp only [Option.bind_some]
    have e0 := mday_0 h.ho
    have hfirst : ¬ mday y m d (3 * (x - 1)) > bgn f y m d n c (k + 1) - 1 := by
      rcases b2.2.2.1 with hx | hx
      · rw [hx, show (3 : Int) * (1 - 1) = 0 by omega]; omega
      · omega
    rw [rnumber_ok (by omega), rnumber_ok (by omega), rnumber_ok (by omega), if_pos m2, if_pos s4, if_pos n2, m3, n3, s5]
    simp only [Option.bind_some, if_true]
    rw [if_neg hfirst]
    have hnext : (if x < 4 then stipendlaw04_PeriodPays.j3 (K + 1) (bgn f y m d n c k - n) k x (bgn f y m d n c (k + 1) - bgn f y m d n c k) (decide (mday y m d (3 * x) ≤ bgn f y m d n c (k + 1) - 1)) y m d f y m d ey em ed n c
        else stipendlaw04_PeriodPays.j3 (K + 1) (bgn f y m d n c k - n) k x (bgn f y m d n c (k + 1) - bgn f y m d n c k) false y m d f y m d ey em ed n c)
        = stipendlaw04_PeriodPays.j3 (K + 1) (bgn f y m d n c k - n) k x (bgn f y m d n c (k + 1) - bgn f y m d n c k) false y m d f y m d ey em ed n c := by
      by_cases hx : x < 4
      · rw [if_pos hx, decide_eq_false (by rcases b2.2.2.2 with g | g <;> omega)]
      · rw [if_neg hx]
    rw [hnext]
    simp only [stipendlaw04_PeriodPays.j3, Bool.false_eq_true, if_false]
    rw [w64 (x := bgn f y m d n c k - n + (bgn f y m d n c (k + 1) - bgn f y m d n c k)) (by omega), w64 (x := k + 1) (by omega),
      show bgn f y m d n c k - n + (bgn f y m d n c (k + 1) - bgn f y m d n c k) = bgn f y m d n c (k + 1) - n by omega]
    exact ih (k + 1) x K (by omega) (by omega) b2 (by omega)
theorem PeriodPays : stipendlaw04_PeriodPays.Pure := by
  intro f y m d _ _ _ _
  refine ⟨12000, ?_⟩
  unfold stipendlaw04_PeriodPays.f
  rw [cuts_ok (by omega)]
  simp only [Option.bind_some, if_true]
  by_cases hg : good f y m d
  · obtain ⟨ey, em, ed, e1, h⟩ := new_yes hg (k := 12000) (by omega)
    have hcb := cnt_bd h.f1 h.f4
    have h3 := mday_le h.ho h.hy (a := 0) (b := 3) (by omega) (by omega) (by omega)
    rw [mday_0 h.ho] at h3
    rw [if_pos ((made_iff _ _ _ _).2 hg), e1]
    simp only [Option.bind_some]
    have hq : Qt y m d (bgn f y m d (num y m d) (num (y + 1) m d - num y m d) 1 - 1) 1 := by
      rw [bgn_1 h]
      exact ⟨by omega, by omega, Or.inl rfl, Or.inr (by rw [show (3 : Int) * 1 = 3 by omega]; omega)⟩
    have := pp_l0 h (cnt f).toNat 1 1 12000 (by omega) (by omega) hq (by omega)
    rwa [bgn_1 h, Int.sub_self] at this
  · rw [if_neg (fun h => hg ((made_iff _ _ _ _).1 h)), (new_no hg (k := 12000) (by omega)).2]
    rfl

end Go.Proofs.Ytojinnnckfimhaa.Pure
