/- Plain facts on tax years: what makes one, how many periods it has, where they begin, and in which one a day is. -/
import Derived.Test.YtojinnnckfimhaaX0
import Derived.Test.YtojinnnckfimhaaXperiodNominal
import Derived.Test.YtojinnnckfimhaaXdateAdd
import Derived.Test.YtojinnnckfimhaaXdateBetween
import Derived.Test.YtojinnnckfimhaaXdateMonths
import Derived.Test.YtojinnnckfimhaaXperiodNewA
import Derived.Test.YtojinnnckfimhaaXperiodYearNextA
import Derived.Test.YtojinnnckfimhaaXperiodlength
import Derived.Test.YtojinnnckfimhaaXperiodYearbegin
import Derived.Test.YtojinnnckfimhaaXperiodYearIndex
import Derived.Test.YtojinnnckfimhaaXperiodYearSpan
import Derived.Test.YtojinnnckfimhaaXperiodYearFreq
import Derived.Test.YtojinnnckfimhaaMAdd
import Derived.Test.YtojinnnckfimhaaMMonths
namespace Go.Proofs.Ytojinnnckfimhaa.Pure
open Go.RowKit Go.Proofs.Ytojinnnckfimhaa.X Go.Proofs.YtojinnnckfimhaaW.PrintWords Go.Proofs.YtojinnnckfimhaaW.PrintLast

def len (f : Int) : Int := if f = 1 then 7 else if f = 2 then 14 else if f = 3 then 28 else 0
def nomi (f : Int) : Int := if f = 1 then 52 else if f = 2 then 26 else if f = 3 then 13 else if f = 4 then 12 else 0
def cnt (f : Int) : Int := if f = 1 then 53 else if f = 2 then 27 else if f = 3 then 14 else 12
/-- Does a day begin a tax year in periods of a frequency? -/
def good (f y m d : Int) : Prop := 1 ≤ f ∧ f ≤ 4 ∧ ok y m d ∧ ¬ (m = 2 ∧ d = 29) ∧ y + 1 ≤ 2199
instance (f y m d : Int) : Decidable (good f y m d) := by unfold good; exact inferInstance
structure YS (f y m d ey em ed n c : Int) : Prop where
  f1 : 1 ≤ f
  f4 : f ≤ 4
  ho : ok y m d
  h29 : ¬ (m = 2 ∧ d = 29)
  hy : y + 1 ≤ 2199
  he : ok ey em ed
  hn : n = num y m d
  hc : n + c = num (y + 1) m d
  hen : num ey em ed = n + c - 1
theorem length_ok (f : Int) : period_length.f f = some (len f) := by
  unfold period_length.f len
  repeat' split
  all_goals rfl
theorem nominal_ok (f : Int) : period_Nominal.f f = some (nomi f) := by
  unfold period_Nominal.f nomi
  repeat' split
  all_goals rfl
theorem f_cases {f : Int} (h1 : 1 ≤ f) (h4 : f ≤ 4) : f = 1 ∨ f = 2 ∨ f = 3 ∨ f = 4 := by omega
theorem ok_next {y m d : Int} (h : ok y m d) (h29 : ¬ (m = 2 ∧ d = 29)) (hy : y + 1 ≤ 2199) : ok (y + 1) m d := by
  have hb := ok_bd h
  refine ⟨by unfold yok; omega, hb.2.2.2.2.1, ?_⟩
  have h01 := lp_01 y
  have h01' := lp_01 (y + 1)
  have hd := hb.2.2.2.2.2.1
  unfold dim at hd ⊢
  by_cases h2 : m = 2
  · rw [if_pos h2] at hd ⊢; omega
  · rw [if_neg h2] at hd ⊢; exact hd
theorem year_days (y m d : Int) : num (y + 1) m d = num y m d + 365 ∨ num (y + 1) m d = num y m d + 366 := by
  have hs := dby_succ y
  have h01 := lp_01 y
  have h01' := lp_01 (y + 1)
  unfold num cum
  by_cases h2 : 2 < m
  · rw [if_pos h2, if_pos h2]; omega
  · rw [if_neg h2, if_neg h2]; omega
theorem mn_of_le {a b : Int} (h : a ≤ b) : mn a b = a := by rw [mn_min, if_pos h]
theorem ok_first {y m d : Int} (h : ok y m d) : ok y m 1 := by
  have hb := ok_bd h
  have := dim_bd y m (by omega)
  exact ⟨h.1, by omega, by omega⟩
theorem months12 {y m d : Int} (h : ok y m d) {k : Nat} (hk : 5 ≤ k) : date_Months.f k y m d 12 = some (if y + 1 ≤ 2199 then (y + 1, m, mn d (dim (y + 1) m), 0) else (0, 0, 0, 30)) := by
  have hb := ok_bd h
  rw [months_ok h (by omega) hk, show (12 * y + m - 1 + 12) / 12 = y + 1 by omega, show (12 * y + m - 1 + 12) % 12 + 1 = m by omega]
  congr 1
  by_cases hy : y + 1 ≤ 2199
  · rw [if_pos hy, if_pos (by unfold yok; omega)]
  · rw [if_neg hy, if_neg (by unfold yok; omega)]
theorem new_yes {f y m d : Int} (hg : good f y m d) {k : Nat} (hk : 60 ≤ k) :
    ∃ ey em ed, period_New_A.f k f y m d = some (f, y, m, d, ey, em, ed, num y m d, num (y + 1) m d - num y m d, 0) ∧ YS f y m d ey em ed (num y m d) (num (y + 1) m d - num y m d) := by
  obtain ⟨hf1, hf4, ho, h29, hy⟩ := hg
  have hn := ok_next ho h29 hy
  have hr := num_range hn
  have hr0 := num_range ho
  have hyd := year_days y m d
  have hno : nomi f ≠ 0 := by rcases f_cases hf1 hf4 with rfl | rfl | rfl | rfl <;> decide
  obtain ⟨ey, em, ed, e1, e2, e3⟩ := add_ok hn (b := -1) (by omega) (k := k) (by omega)
  refine ⟨ey, em, ed, ?_, hf1, hf4, ho, h29, hy, e2, rfl, by omega, by omega⟩
  have eb : date_Between.f k y m d (y + 1) m d = some (num (y + 1) m d - num y m d, 0) := by rw [between_ok (by omega), if_pos ⟨ho, hn⟩]
  have en : date_Number.f k y m d = some (num y m d, 0) := by rw [number_ok (by omega), if_pos ho]
  unfold period_New_A.f
  rw [nominal_ok, months12 ho (by omega), if_pos hy, mn_of_le hn.2.2]
  simp only [Option.bind_some]
  rw [if_neg hno, if_pos trivial, e1, en, eb]
  simp only [Option.bind_some, if_true]
  by_cases h2 : m = 2
  · rw [if_pos h2, if_neg (fun h => h29 ⟨h2, h⟩)]
  · rw [if_neg h2]
theorem new_no {f y m d : Int} (hg : ¬ good f y m d) {k : Nat} (hk : 60 ≤ k) :
    period_New_A.f k f y m d = none ∧ period_New_B.f k f y m d = some (if 1 ≤ f ∧ f ≤ 4 then 30 else 40) := by
  unfold period_New_A.f period_New_B.f
  rw [nominal_ok]
  simp only [Option.bind_some]
  by_cases hf : 1 ≤ f ∧ f ≤ 4
  · have hno : nomi f ≠ 0 := by rcases f_cases hf.1 hf.2 with rfl | rfl | rfl | rfl <;> decide
    rw [if_neg hno, if_neg hno, if_pos hf]
    by_cases ho : ok y m d
    · rw [months12 ho (by omega)]
      by_cases hy : y + 1 ≤ 2199
      · have h29 : m = 2 ∧ d = 29 := Decidable.byContradiction fun h => hg ⟨hf.1, hf.2, ho, h, hy⟩
        rw [if_pos hy]
        simp only [Option.bind_some, if_true]
        rw [if_pos h29.1, if_pos h29.2, if_pos h29.1, if_pos h29.2]
        exact ⟨rfl, rfl⟩
      · rw [if_neg hy]
        exact ⟨rfl, rfl⟩
    · rw [months_no (Or.inl ho) (by omega)]
      exact ⟨rfl, rfl⟩
  · have hno : nomi f = 0 := by
      unfold nomi
      rw [if_neg (by omega), if_neg (by omega), if_neg (by omega), if_neg (by omega)]
    rw [if_pos hno, if_pos hno, if_neg hf]
    exact ⟨rfl, rfl⟩
theorem made_iff (f y m d : Int) : period_New.made f y m d = true ↔ good f y m d := by
  unfold period_New.made
  by_cases hg : good f y m d
  · obtain ⟨_, _, _, e, _⟩ := new_yes hg (k := 300) (by omega)
    simp [e, hg]
  · have e := (new_no hg (k := 300) (by omega)).1
    simp [e, hg]
theorem ys_good {f y m d ey em ed n c : Int} (h : YS f y m d ey em ed n c) : good f y m d := ⟨h.f1, h.f4, h.ho, h.h29, h.hy⟩
theorem ys_next {f y m d ey em ed n c : Int} (h : YS f y m d ey em ed n c) : ok (y + 1) m d := ok_next h.ho h.h29 h.hy
theorem ys_c {f y m d ey em ed n c : Int} (h : YS f y m d ey em ed n c) : c = 365 ∨ c = 366 := by
  have := year_days y m d
  have := h.hn
  have := h.hc
  omega
theorem ys_n {f y m d ey em ed n c : Int} (h : YS f y m d ey em ed n c) : 0 ≤ n ∧ n + c < 109573 := by
  have h1 := num_range h.ho
  have h2 := num_range (ys_next h)
  have := h.hn
  have := h.hc
  omega
/-- The day behind the last one is that of the next year. -/
theorem ys_add {f y m d ey em ed n c : Int} (h : YS f y m d ey em ed n c) {k : Nat} (hk : 40 ≤ k) : date_Add.f k ey em ed 1 = some (y + 1, m, d, 0) := by
  have hr := ys_n h
  have hc := ys_c h
  have he := h.hen
  have hcc := h.hc
  obtain ⟨a, b, e, e1, e2, e3⟩ := add_ok h.he (b := 1) (by omega) hk
  obtain ⟨rfl, rfl, rfl⟩ := num_inj e2 (ys_next h) (by omega)
  exact e1
theorem next_A {f y m d ey em ed n c : Int} (h : YS f y m d ey em ed n c) {k : Nat} (hk : 60 ≤ k) : period_Year_Next_A.f k f y m d ey em ed n c = period_New_A.f k f (y + 1) m d := by
  unfold period_Year_Next_A.f
  rw [ys_add h (by omega)]
  rfl
theorem next_made {f y m d ey em ed n c : Int} (h : YS f y m d ey em ed n c) : period_Year_Next.made f y m d ey em ed n c = period_New.made f (y + 1) m d := by
  unfold period_Year_Next.made period_New.made
  rw [next_A h (by omega)]
theorem next_good {f y m d ey em ed n c : Int} (h : YS f y m d ey em ed n c) : good f (y + 1) m d ↔ y + 2 ≤ 2199 := by
  unfold good
  refine ⟨fun g => by omega, fun g => ⟨h.f1, h.f4, ys_next h, h.h29, by omega⟩⟩
theorem next_B {f y m d ey em ed n c : Int} (h : YS f y m d ey em ed n c) (hy : ¬ y + 2 ≤ 2199) {k : Nat} (hk : 60 ≤ k) : period_Year_Next_B.f k f y m d ey em ed n c = some (30, f, y, m, d, ey, em, ed, n, c) := by
  have hg : ¬ good f (y + 1) m d := fun g => hy ((next_good h).1 g)
  have hm : ¬ period_New.made f (y + 1) m d = true := fun g => hg ((made_iff _ _ _ _).1 g)
  unfold period_Year_Next_B.f
  rw [ys_add h (by omega)]
  simp only [Option.bind_some, if_true]
  rw [if_neg hm, (new_no hg hk).2, if_pos ⟨h.f1, h.f4⟩]
  rfl
/-- How many periods a year has. -/
theorem count_ok {f y m d ey em ed n c : Int} (h : YS f y m d ey em ed n c) : period_Year_Count.f f y m d ey em ed n c = some (cnt f, f, y, m, d, ey, em, ed, n, c) := by
  have hc := ys_c h
  unfold period_Year_Count.f
  rw [length_ok, nominal_ok]
  simp only [Option.bind_some]
  by_cases h0 : len f = 0
  · rw [if_pos h0]
    rcases f_cases h.f1 h.f4 with rfl | rfl | rfl | rfl
    · exact absurd h0 (by decide)
    · exact absurd h0 (by decide)
    · exact absurd h0 (by decide)
    · rfl
  · rw [if_neg h0]
    have e : wrap64 (Int.tdiv (wrap64 (wrap64 (c + len f) - 1)) (len f)) = cnt f := by
      rcases f_cases h.f1 h.f4 with rfl | rfl | rfl | rfl
      · rcases hc with rfl | rfl <;> decide +kernel
      · rcases hc with rfl | rfl <;> decide +kernel
      · rcases hc with rfl | rfl <;> decide +kernel
      · exact absurd rfl h0
    rw [e]
/-- The number of the day so many months on. -/
def mday (y m d j : Int) : Int := num ((12 * y + m - 1 + j) / 12) ((12 * y + m - 1 + j) % 12 + 1) (mn d (dim ((12 * y + m - 1 + j) / 12) ((12 * y + m - 1 + j) % 12 + 1)))
/-- The number of the first day of a period; also of one behind the last. -/
def bgn (f y m d n c k : Int) : Int := if f = 4 then mday y m d (k - 1) else n + mn (len f * (k - 1)) c
theorem mday_ok {y m d j : Int} (ho : ok y m d) (hy : y + 1 ≤ 2199) (hj : 0 ≤ j ∧ j ≤ 12) :
    ok ((12 * y + m - 1 + j) / 12) ((12 * y + m - 1 + j) % 12 + 1) (mn d (dim ((12 * y + m - 1 + j) / 12) ((12 * y + m - 1 + j) % 12 + 1))) := by
  have hb := ok_bd ho
  have hd := dim_bd ((12 * y + m - 1 + j) / 12) ((12 * y + m - 1 + j) % 12 + 1) (by omega)
  refine ⟨by unfold yok; omega, ?_, ?_⟩
  · rw [mn_min]; split <;> omega
  · rw [mn_min]; split <;> omega
theorem short_ok {y m d j : Int} (ho : ok y m d) (hy : y + 1 ≤ 2199) (hj : 0 ≤ j ∧ j ≤ 12) {k : Nat} (hk : 5 ≤ k) :
    period_short.f k y m d j = some ((12 * y + m - 1 + j) / 12, (12 * y + m - 1 + j) % 12 + 1, mn d (dim ((12 * y + m - 1 + j) / 12) ((12 * y + m - 1 + j) % 12 + 1))) := by
  have hb := ok_bd ho
  have hy' : yok ((12 * y + m - 1 + j) / 12) := by unfold yok; omega
  unfold period_short.f
  rw [months_ok (ok_first ho) (by omega) hk, if_pos hy']
  simp only [Option.bind_some]
  rw [last_ok (by omega)]
  unfold last
  rw [if_pos hy']
  rfl
theorem begin_ok {f y m d ey em ed n c k : Int} (h : YS f y m d ey em ed n c) (hk1 : 1 ≤ k) (hk2 : k ≤ cnt f + 1) {K : Nat} (hK : 20 ≤ K) :
    period_Year_begin.f K f y m d ey em ed n c k = some (bgn f y m d n c k, f, y, m, d, ey, em, ed, n, c) := by
  obtain ⟨K, rfl⟩ : ∃ j, K = j + 1 := ⟨K - 1, by omega⟩
  have hc := ys_c h
  have hn := ys_n h
  unfold period_Year_begin.f bgn
  rw [length_ok]
  simp only [Option.bind_some]
  by_cases h4 : f = 4
  · subst h4
    have hk2' : k ≤ 13 := hk2
    rw [if_neg (by decide), if_pos rfl, w64 (x := k - 1) (by omega)]
    have hj : 0 ≤ k - 1 ∧ k - 1 ≤ 12 := by omega
    have ho := h.ho
    have hb := ok_bd ho
    have hm := mday_ok ho h.hy hj
    have hs := short_ok ho h.hy hj (k := K) (by omega)
    have hy' : yok ((12 * y + m - 1 + (k - 1)) / 12) := hm.1
    rw [months_ok ho (by omega) (by omega), if_pos hy']
    simp only [Option.bind_some, if_true]
    unfold mday
    generalize (12 * y + m - 1 + (k - 1)) / 12 = Y at *
    generalize (12 * y + m - 1 + (k - 1)) % 12 + 1 = M at *
    generalize mn d (dim Y M) = D at *
    cases hq : (D != d)
    · simp only [period_Year_begin.j0, Bool.false_eq_true, if_false]
      rw [number_ok (by omega), if_pos hm]
      rfl
    · simp only [period_Year_begin.j0, if_true]
      rw [w64 (x := k - 1) (by omega), hs]
      simp only [Option.bind_some]
      rw [number_ok (by omega), if_pos hm]
      rfl
  · rw [if_neg h4]
    have e1 : wrap64 (k - 1) = k - 1 := w64 (by unfold cnt at hk2; repeat' split at hk2
                                                all_goals omega)
    have hl : len f > 0 ∧ len f ≤ 28 := by rcases f_cases h.f1 h.f4 with rfl | rfl | rfl | rfl <;> first | decide | exact absurd rfl h4
    have hc53 : cnt f ≤ 53 := by rcases f_cases h.f1 h.f4 with rfl | rfl | rfl | rfl <;> decide
    have hp : 0 ≤ len f * (k - 1) ∧ len f * (k - 1) ≤ 10000 := by
      rcases f_cases h.f1 h.f4 with rfl | rfl | rfl | rfl
      · rw [show len 1 = 7 from rfl]; omega
      · rw [show len 2 = 14 from rfl]; omega
      · rw [show len 3 = 28 from rfl]; omega
      · exact absurd rfl h4
    rw [if_pos hl.1, e1, w64 (x := len f * (k - 1)) (by omega)]
    generalize len f * (k - 1) = P at *
    have hm : 0 ≤ mn P c ∧ mn P c ≤ c := by rw [mn_min]; split <;> omega
    rw [w64 (by omega)]
theorem cum_next (y m : Int) (x : Int) (hm : 1 ≤ m ∧ m ≤ 12) : num (if m = 12 then y + 1 else y) (if m = 12 then 1 else m + 1) x = num y m 1 + dim y m + x - 1 := by
  have hc := cum_succ y m hm
  have hs := dby_succ y
  have h13 := cum_13 y
  unfold num
  by_cases h : m = 12
  · rw [if_pos h, if_pos h, cum_1]
    subst h
    rw [show (12 : Int) + 1 = 13 from rfl] at hc
    omega
  · rw [if_neg h, if_neg h]; omega
theorem mday_step {y m d j : Int} (ho : ok y m d) (hy : y + 1 ≤ 2199) (hj : 0 ≤ j ∧ j ≤ 11) : mday y m d j + 1 ≤ mday y m d (j + 1) ∧ mday y m d (j + 1) ≤ mday y m d j + 31 := by
  have hb := ok_bd ho
  have h1 := mday_ok ho hy (j := j) (by omega)
  have h2 := mday_ok ho hy (j := j + 1) (by omega)
  have hd1 := dim_bd ((12 * y + m - 1 + j) / 12) ((12 * y + m - 1 + j) % 12 + 1) (by omega)
  have hd2 := dim_bd ((12 * y + m - 1 + (j + 1)) / 12) ((12 * y + m - 1 + (j + 1)) % 12 + 1) (by omega)
  have hx := cum_next ((12 * y + m - 1 + j) / 12) ((12 * y + m - 1 + j) % 12 + 1) (mn d (dim ((12 * y + m - 1 + (j + 1)) / 12) ((12 * y + m - 1 + (j + 1)) % 12 + 1))) (by omega)
  have e1 : (if (12 * y + m - 1 + j) % 12 + 1 = 12 then (12 * y + m - 1 + j) / 12 + 1 else (12 * y + m - 1 + j) / 12) = (12 * y + m - 1 + (j + 1)) / 12 := by split <;> omega
  have e2 : (if (12 * y + m - 1 + j) % 12 + 1 = 12 then 1 else (12 * y + m - 1 + j) % 12 + 1 + 1) = (12 * y + m - 1 + (j + 1)) % 12 + 1 := by split <;> omega
  rw [e1, e2] at hx
  unfold mday
  rw [hx]
  generalize (12 * y + m - 1 + j) / 12 = Y at *
  generalize (12 * y + m - 1 + j) % 12 + 1 = M at *
  generalize dim ((12 * y + m - 1 + (j + 1)) / 12) ((12 * y + m - 1 + (j + 1)) % 12 + 1) = D2 at *
  have hn : num Y M (mn d (dim Y M)) = num Y M 1 + mn d (dim Y M) - 1 := by unfold num; omega
  rw [hn, mn_min, mn_min]
  split <;> split <;> omega
theorem len_cases {f : Int} (h1 : 1 ≤ f) (h4 : f ≤ 4) : (f ≠ 4 ∧ len f = 7 ∧ cnt f = 53) ∨ (f ≠ 4 ∧ len f = 14 ∧ cnt f = 27) ∨ (f ≠ 4 ∧ len f = 28 ∧ cnt f = 14) ∨ (f = 4 ∧ len f = 0 ∧ cnt f = 12) := by
  rcases f_cases h1 h4 with rfl | rfl | rfl | rfl <;> decide
theorem bgn_1 {f y m d ey em ed n c : Int} (h : YS f y m d ey em ed n c) : bgn f y m d n c 1 = n := by
  have hb := ok_bd h.ho
  have hc := ys_c h
  have hn := h.hn
  unfold bgn
  split
  · unfold mday
    rw [show (12 * y + m - 1 + (1 - 1)) / 12 = y by omega, show (12 * y + m - 1 + (1 - 1)) % 12 + 1 = m by omega, mn_of_le h.ho.2.2, hn]
  · rw [show len f * (1 - 1) = 0 by omega, mn_of_le (by omega)]; omega
theorem bgn_end {f y m d ey em ed n c : Int} (h : YS f y m d ey em ed n c) : bgn f y m d n c (cnt f + 1) = n + c := by
  have hb := ok_bd h.ho
  have hc := ys_c h
  have hn := h.hn
  unfold bgn
  rcases len_cases h.f1 h.f4 with ⟨hf, e, e'⟩ | ⟨hf, e, e'⟩ | ⟨hf, e, e'⟩ | ⟨hf, e, e'⟩
  · rw [if_neg hf, e, e', mn_min, if_neg (by omega)]
  · rw [if_neg hf, e, e', mn_min, if_neg (by omega)]
  · rw [if_neg hf, e, e', mn_min]; split <;> omega
  · rw [if_pos hf, e', h.hc]
    unfold mday
    rw [show (12 * y + m - 1 + (12 + 1 - 1)) / 12 = y + 1 by omega, show (12 * y + m - 1 + (12 + 1 - 1)) % 12 + 1 = m by omega, mn_of_le (ys_next h).2.2]
theorem bgn_step {f y m d ey em ed n c k : Int} (h : YS f y m d ey em ed n c) (hk : 1 ≤ k ∧ k ≤ cnt f) :
    bgn f y m d n c k + 1 ≤ bgn f y m d n c (k + 1) ∧ bgn f y m d n c (k + 1) ≤ bgn f y m d n c k + 31 := by
  have hc := ys_c h
  unfold bgn
  rcases len_cases h.f1 h.f4 with ⟨hf, e, e'⟩ | ⟨hf, e, e'⟩ | ⟨hf, e, e'⟩ | ⟨hf, e, e'⟩
  · rw [if_neg hf, if_neg hf, e, mn_min, mn_min]; split <;> split <;> omega
  · rw [if_neg hf, if_neg hf, e, mn_min, mn_min]; split <;> split <;> omega
  · rw [if_neg hf, if_neg hf, e, mn_min, mn_min]; split <;> split <;> omega
  · rw [if_pos hf, if_pos hf]
    have := mday_step h.ho h.hy (j := k - 1) (by omega)
    rwa [show k - 1 + 1 = k + 1 - 1 by omega] at this
theorem bgn_up {f y m d ey em ed n c : Int} (h : YS f y m d ey em ed n c) : ∀ (j : Nat) (a : Int), 1 ≤ a → a + j ≤ cnt f + 1 → bgn f y m d n c a + j ≤ bgn f y m d n c (a + j) := by
  intro j
  induction j with
  | zero => intro a _ _; rw [show a + ((0 : Nat) : Int) = a by omega]; omega
  | succ j ih =>
    intro a h1 h2
    have := ih a h1 (by omega)
    have := bgn_step h (k := a + j) (by omega)
    rw [show a + ((j + 1 : Nat) : Int) = a + j + 1 by omega]
    omega
theorem bgn_lt {f y m d ey em ed n c a b : Int} (h : YS f y m d ey em ed n c) (h1 : 1 ≤ a) (h2 : a ≤ b) (h3 : b ≤ cnt f + 1) : bgn f y m d n c a + (b - a) ≤ bgn f y m d n c b := by
  have := bgn_up h (b - a).toNat a h1 (by omega)
  rw [show a + ((b - a).toNat : Int) = b by omega] at this
  omega
theorem bgn_rng {f y m d ey em ed n c k : Int} (h : YS f y m d ey em ed n c) (hk : 1 ≤ k ∧ k ≤ cnt f + 1) : n ≤ bgn f y m d n c k ∧ bgn f y m d n c k ≤ n + c := by
  have h1 := bgn_1 h
  have h2 := bgn_end h
  have h3 := bgn_lt h (a := 1) (b := k) (by omega) (by omega) (by omega)
  have h4 := bgn_lt h (a := k) (b := cnt f + 1) (by omega) (by omega) (by omega)
  omega
/-- A day is in one period alone. -/
theorem bgn_uniq {f y m d ey em ed n c k k' v : Int} (h : YS f y m d ey em ed n c) (hk : 1 ≤ k ∧ k ≤ cnt f) (hk' : 1 ≤ k' ∧ k' ≤ cnt f) (h1 : bgn f y m d n c k ≤ v) (h2 : v < bgn f y m d n c (k + 1)) (h3 : bgn f y m d n c k' ≤ v) (h4 : v < bgn f y m d n c (k' + 1)) : k = k' := by
  rcases Int.lt_trichotomy k k' with hl | hl | hl
  · have := bgn_lt h (a := k + 1) (b := k') (by omega) (by omega) (by omega); omega
  · exact hl
  · have := bgn_lt h (a := k' + 1) (b := k) (by omega) (by omega) (by omega); omega
theorem cnt_bd {f : Int} (h1 : 1 ≤ f) (h4 : f ≤ 4) : 12 ≤ cnt f ∧ cnt f ≤ 53 := by
  rcases len_cases h1 h4 with h | h | h | h <;> omega
theorem index_l0 {f y m d ey em ed n c v : Int} (h : YS f y m d ey em ed n c) (hf : f = 4) (hv2 : v < n + c) : ∀ (j : Nat) (k : Int) (K : Nat), 1 ≤ k → k + j = 12 → bgn f y m d n c k ≤ v → j + 30 ≤ K →
    ∃ k', period_Year_Index.l0 K v k f y m d ey em ed n c = some (k', 0, f, y, m, d, ey, em, ed, n, c) ∧ 1 ≤ k' ∧ k' ≤ cnt f ∧ bgn f y m d n c k' ≤ v ∧ v < bgn f y m d n c (k' + 1) := by
  have h12 : cnt f = 12 := by subst hf; rfl
  have he := bgn_end h
  rw [h12] at he
  intro j
  induction j with
  | zero =>
    intro k K h1 hk hv hK
    obtain ⟨K, rfl⟩ : ∃ q, K = q + 1 := ⟨K - 1, by omega⟩
    obtain rfl : k = 12 := by omega
    refine ⟨12, ?_, by omega, by omega, hv, by omega⟩
    simp only [period_Year_Index.l0]
    rw [count_ok h]
    simp only [Option.bind_some]
    rw [if_neg (by omega)]
  | succ j ih =>
    intro k K h1 hk hv hK
    obtain ⟨K, rfl⟩ : ∃ q, K = q + 1 := ⟨K - 1, by omega⟩
    simp only [period_Year_Index.l0]
    rw [count_ok h]
    simp only [Option.bind_some]
    rw [if_pos (by omega), w64 (x := k + 1) (by omega), begin_ok h (by omega) (by omega) (by omega)]
    simp only [Option.bind_some]
    by_cases hl : bgn f y m d n c (k + 1) ≤ v
    · rw [if_pos hl]
      exact ih (k + 1) K (by omega) (by omega) hl (by omega)
    · rw [if_neg hl]
      exact ⟨k, rfl, by omega, by omega, hv, by omega⟩
theorem index_in {f y m d ey em ed n c a b e : Int} (h : YS f y m d ey em ed n c) (ho : ok a b e) (hv : n ≤ num a b e ∧ num a b e < n + c) {K : Nat} (hK : 60 ≤ K) :
    ∃ k, period_Year_Index.f K f y m d ey em ed n c a b e = some (k, 0, f, y, m, d, ey, em, ed, n, c) ∧ 1 ≤ k ∧ k ≤ cnt f ∧ bgn f y m d n c k ≤ num a b e ∧ num a b e < bgn f y m d n c (k + 1) := by
  obtain ⟨K, rfl⟩ : ∃ q, K = q + 1 := ⟨K - 1, by omega⟩
  have hc := ys_c h
  have hn := ys_n h
  unfold period_Year_Index.f
  rw [number_ok (by omega), if_pos ho]
  simp only [Option.bind_some, if_true]
  rw [if_neg (by omega), w64 (x := n + c) (by omega), show decide (num a b e ≥ n + c) = false by simp; omega]
  simp only [period_Year_Index.j0, Bool.false_eq_true, if_false]
  rw [length_ok]
  simp only [Option.bind_some]
  generalize num a b e = v at *
  by_cases hf : f = 4
  · rw [if_neg (by subst hf; decide)]
    exact index_l0 h hf hv.2 11 1 K (by omega) (by omega) (by rw [bgn_1 h]; omega) (by omega)
  · rw [w64 (x := v - n) (by omega), tdivp (by omega)]
    have hb : ∀ q : Int, bgn f y m d n c q = n + mn (len f * (q - 1)) c := by intro q; unfold bgn; rw [if_neg hf]
    rcases len_cases h.f1 h.f4 with ⟨_, e, e'⟩ | ⟨_, e, e'⟩ | ⟨_, e, e'⟩ | ⟨hf', _⟩
    · rw [e, e', if_pos (by omega), if_neg (by omega), w64 (x := (v - n) / 7) (by omega), w64 (x := (v - n) / 7 + 1) (by omega)]
      refine ⟨_, rfl, by omega, by omega, ?_, ?_⟩ <;> rw [hb, e, mn_min] <;> split <;> omega
    · rw [e, e', if_pos (by omega), if_neg (by omega), w64 (x := (v - n) / 14) (by omega), w64 (x := (v - n) / 14 + 1) (by omega)]
      refine ⟨_, rfl, by omega, by omega, ?_, ?_⟩ <;> rw [hb, e, mn_min] <;> split <;> omega
    · rw [e, e', if_pos (by omega), if_neg (by omega), w64 (x := (v - n) / 28) (by omega), w64 (x := (v - n) / 28 + 1) (by omega)]
      refine ⟨_, rfl, by omega, by omega, ?_, ?_⟩ <;> rw [hb, e, mn_min] <;> split <;> omega
    · exact absurd hf' hf
theorem index_is {f y m d ey em ed n c a b e k : Int} (h : YS f y m d ey em ed n c) (ho : ok a b e) (hk : 1 ≤ k ∧ k ≤ cnt f) (h1 : bgn f y m d n c k ≤ num a b e) (h2 : num a b e < bgn f y m d n c (k + 1)) {K : Nat} (hK : 60 ≤ K) :
    period_Year_Index.f K f y m d ey em ed n c a b e = some (k, 0, f, y, m, d, ey, em, ed, n, c) := by
  have r1 := bgn_rng h (k := k) (by omega)
  have r2 := bgn_rng h (k := k + 1) (by omega)
  obtain ⟨k', i1, i2, i3, i4, i5⟩ := index_in h ho (by omega) hK
  rw [i1, bgn_uniq h hk ⟨i2, i3⟩ h1 h2 i4 i5]
theorem index_out {f y m d ey em ed n c a b e : Int} (h : YS f y m d ey em ed n c) (ho : ok a b e) (hv : num a b e < n ∨ n + c ≤ num a b e) {K : Nat} (hK : 60 ≤ K) :
    period_Year_Index.f K f y m d ey em ed n c a b e = some (0, 1, f, y, m, d, ey, em, ed, n, c) := by
  obtain ⟨K, rfl⟩ : ∃ q, K = q + 1 := ⟨K - 1, by omega⟩
  have hc := ys_c h
  have hn := ys_n h
  unfold period_Year_Index.f
  rw [number_ok (by omega), if_pos ho]
  simp only [Option.bind_some, if_true]
  by_cases hl : num a b e < n
  · rw [if_pos hl]
    simp only [period_Year_Index.j0, if_true]
  · rw [if_neg hl, w64 (x := n + c) (by omega), show decide (num a b e ≥ n + c) = true by simp; omega]
    simp only [period_Year_Index.j0, if_true]
theorem index_no {f y m d ey em ed n c a b e : Int} (ho : ¬ ok a b e) {K : Nat} (hK : 60 ≤ K) :
    period_Year_Index.f K f y m d ey em ed n c a b e = some (0, 30, f, y, m, d, ey, em, ed, n, c) := by
  unfold period_Year_Index.f
  rw [number_ok (by omega), if_neg ho]
  rfl
/-- A period's first day and its last one. -/
theorem span_ok {f y m d ey em ed n c k : Int} (h : YS f y m d ey em ed n c) (hk : 1 ≤ k ∧ k ≤ cnt f) {K : Nat} (hK : 60 ≤ K) :
    ∃ a b e a' b' e', period_Year_Span.f K f y m d ey em ed n c k = some (a, b, e, a', b', e', 0, f, y, m, d, ey, em, ed, n, c) ∧ ok a b e ∧ num a b e = bgn f y m d n c k ∧ ok a' b' e' ∧ num a' b' e' = bgn f y m d n c (k + 1) - 1 := by
  obtain ⟨K, rfl⟩ : ∃ q, K = q + 1 + 1 := ⟨K - 2, by omega⟩
  have hc := ys_c h
  have hn := ys_n h
  have hb := cnt_bd h.f1 h.f4
  have r1 := bgn_rng h (k := k) (by omega)
  have r2 := bgn_rng h (k := k + 1) (by omega)
  have r3 := bgn_step h hk
  obtain ⟨a, b, e, e1, e2, e3⟩ := of_ok (n := bgn f y m d n c k) (by omega) (k := K + 1) (by omega)
  obtain ⟨a', b', e', f1, f2, f3⟩ := of_ok (n := bgn f y m d n c (k + 1) - 1) (by omega) (k := K) (by omega)
  refine ⟨a, b, e, a', b', e', ?_, e2, e3, f2, f3⟩
  unfold period_Year_Span.f
  rw [if_neg (by omega), count_ok h]
  simp only [Option.bind_some]
  rw [show decide (k > cnt f) = false by simp; omega]
  simp only [period_Year_Span.j0, Bool.false_eq_true, if_false]
  rw [begin_ok h (by omega) (by omega) (by omega)]
  simp only [Option.bind_some]
  rw [e1]
  simp only [Option.bind_some]
  rw [count_ok h]
  simp only [Option.bind_some]
  by_cases hl : k < cnt f
  · rw [if_pos hl, w64 (x := k + 1) (by omega), begin_ok h (by omega) (by omega) (by omega)]
    simp only [Option.bind_some, period_Year_Span.j1]
    rw [w64 (by omega), f1]
    simp only [Option.bind_some, if_true]
  · have hk' : k + 1 = cnt f + 1 := by omega
    rw [hk', bgn_end h] at f1
    rw [if_neg hl]
    simp only [period_Year_Span.j1]
    rw [w64 (x := n + c) (by omega), w64 (by omega), f1]
    simp only [Option.bind_some, if_true]
theorem span_no {f y m d ey em ed n c k : Int} (h : YS f y m d ey em ed n c) (hk : ¬ (1 ≤ k ∧ k ≤ cnt f)) {K : Nat} (hK : 60 ≤ K) :
    period_Year_Span.f K f y m d ey em ed n c k = some (0, 0, 0, 0, 0, 0, 1, f, y, m, d, ey, em, ed, n, c) := by
  obtain ⟨K, rfl⟩ : ∃ q, K = q + 1 + 1 := ⟨K - 2, by omega⟩
  unfold period_Year_Span.f
  by_cases h1 : k < 1
  · rw [if_pos h1]
    simp only [period_Year_Span.j0, if_true]
  · rw [if_neg h1, count_ok h]
    simp only [Option.bind_some]
    rw [show decide (k > cnt f) = true by simp; omega]
    simp only [period_Year_Span.j0, if_true]
theorem part_ok {f y m d ey em ed n c k : Int} (h : YS f y m d ey em ed n c) {K : Nat} (hK : 60 ≤ K) :
    period_Year_Part.f K f y m d ey em ed n c k = some (if 1 ≤ k ∧ k ≤ cnt f then (mn k (nomi f), nomi f, 0, f, y, m, d, ey, em, ed, n, c) else (0, 0, 1, f, y, m, d, ey, em, ed, n, c)) := by
  obtain ⟨K, rfl⟩ : ∃ q, K = q + 1 + 1 := ⟨K - 2, by omega⟩
  unfold period_Year_Part.f
  by_cases h1 : k < 1
  · rw [if_pos h1, if_neg (by omega)]
    simp only [period_Year_Part.j0, if_true]
  · rw [if_neg h1, count_ok h]
    simp only [Option.bind_some]
    by_cases h2 : k > cnt f
    · rw [show decide (k > cnt f) = true by simpa using h2, if_neg (by omega)]
      simp only [period_Year_Part.j0, if_true]
    · rw [show decide (k > cnt f) = false by simpa using h2, if_pos (by omega)]
      simp only [period_Year_Part.j0, Bool.false_eq_true, if_false]
      rw [nominal_ok]
      rfl
end Go.Proofs.Ytojinnnckfimhaa.Pure
