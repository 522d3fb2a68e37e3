/- Plain facts on days: so many months on, by the package date and by the document's answer. -/
import Derived.Test.YtojinnnckfimhaaX0
import Derived.Test.YtojinnnckfimhaaXdateMonths
import Derived.Test.YtojinnnckfimhaaXstipendref03Months
import Derived.Test.YtojinnnckfimhaaMDate
namespace Go.Proofs.Ytojinnnckfimhaa.Pure
open Go.RowKit Go.Proofs.Ytojinnnckfimhaa.X Go.Proofs.YtojinnnckfimhaaW.PrintWords Go.Proofs.YtojinnnckfimhaaW.PrintLast

theorem mn_min (a b : Int) : mn a b = if a ≤ b then a else b := by unfold mn; split <;> split <;> omega
theorem months_ok {y m d b : Int} (h : ok y m d) (hb : -3600 ≤ b ∧ b ≤ 3600) {k : Nat} (hk : 5 ≤ k) :
    date_Months.f k y m d b = some (if yok ((12 * y + m - 1 + b) / 12) then ((12 * y + m - 1 + b) / 12, (12 * y + m - 1 + b) % 12 + 1, mn d (dim ((12 * y + m - 1 + b) / 12) ((12 * y + m - 1 + b) % 12 + 1)), 0) else (0, 0, 0, 30)) := by
  have hd := ok_bd h
  obtain ⟨k, rfl⟩ : ∃ n, k = n + 1 := ⟨k - 1, by omega⟩
  unfold date_Months.f
  rw [right_ok (by omega)]
  simp only [h, decide_true, Option.bind_some, if_true]
  rw [if_neg (by omega), show decide (b < -3600) = false by simp; omega]
  simp only [date_Months.j0, Bool.false_eq_true, if_false]
  rw [w64 (x := 12 * y) (by omega), w64 (x := 12 * y + m) (by omega), w64 (x := 12 * y + m - 1) (by omega), w64 (x := 12 * y + m - 1 + b) (by omega), tdivp (by omega), tmodp (by omega)]
  have hM : 1 ≤ (12 * y + m - 1 + b) % 12 + 1 ∧ (12 * y + m - 1 + b) % 12 + 1 ≤ 12 := by omega
  rw [w64 (x := (12 * y + m - 1 + b) / 12) (by omega), w64 (x := (12 * y + m - 1 + b) % 12 + 1) (by omega), last_ok (by omega)]
  simp only [Option.bind_some]
  rw [right_ok (by omega)]
  simp only [Option.bind_some, decide_eq_true_eq]
  generalize (12 * y + m - 1 + b) / 12 = Y at *
  generalize (12 * y + m - 1 + b) % 12 + 1 = M at *
  by_cases hY : yok Y
  · have hdm := dim_bd Y M hM
    rw [show last Y M = dim Y M by unfold last; rw [if_pos hY], if_pos hY, if_pos]
    refine ⟨hY, ?_, ?_⟩
    · rw [mn_min]; split <;> omega
    · rw [mn_min]; split <;> omega
  · rw [if_neg hY, if_neg (fun hh => hY hh.1)]
theorem months_no {y m d b : Int} (h : ¬ ok y m d ∨ 3600 < b ∨ b < -3600) {k : Nat} (hk : 5 ≤ k) : date_Months.f k y m d b = some (0, 0, 0, 30) := by
  obtain ⟨k, rfl⟩ : ∃ n, k = n + 1 := ⟨k - 1, by omega⟩
  unfold date_Months.f
  rw [right_ok (by omega)]
  simp only [Option.bind_some, decide_eq_true_eq]
  by_cases ho : ok y m d
  · rw [if_pos ho]
    by_cases h1 : b > 3600
    · rw [if_pos h1]; simp [date_Months.j0]
    · rw [if_neg h1, show decide (b < -3600) = true by simp; rcases h with h | h | h; exact absurd ho h; omega; exact h]; simp [date_Months.j0]
  · rw [if_neg ho]; simp [date_Months.j0]
theorem rm_l2 {y m : Int} : ∀ (j : Nat) (k : Nat) (d : Int), d ≤ 28 + j → j < k → 1 ≤ d → d ≤ 31 →
    (yok y → 1 ≤ m → m ≤ 12 → stipendref03_Months.l2 k y m d = some (y, m, mn d (dim y m), true)) ∧ (¬ yok y → ∃ a b c, stipendref03_Months.l2 k y m d = some (a, b, c, false)) := by
  intro j
  induction j with
  | zero =>
    intro k d hd hk h1 h31
    obtain ⟨k, rfl⟩ : ∃ n, k = n + 1 := ⟨k - 1, by omega⟩
    simp only [stipendref03_Months.l2]
    rw [if_neg (by omega), rright_ok]
    simp only [Option.bind_some]
    refine ⟨fun hy h2 h3 => ?_, fun hy => ?_⟩
    · have := dim_bd y m ⟨h2, h3⟩
      rw [mn_min, if_pos (by omega), show decide (ok y m d) = true by simp; exact ⟨hy, by omega, by omega⟩]
    · exact ⟨y, m, d, by rw [show decide (ok y m d) = false by simp; exact fun h => hy h.1]⟩
  | succ j ih =>
    intro k d hd hk h1 h31
    obtain ⟨k, rfl⟩ : ∃ n, k = n + 1 := ⟨k - 1, by omega⟩
    simp only [stipendref03_Months.l2]
    by_cases h28 : d > 28
    · rw [if_pos h28, month_ok]
      simp only [Option.bind_some]
      by_cases hl : d > last y m
      · rw [if_pos hl, w64 (by omega)]
        obtain ⟨e1, e2⟩ := ih k (d - 1) (by omega) (by omega) (by omega) (by omega)
        refine ⟨fun hy h2 h3 => ?_, e2⟩
        have := dim_bd y m ⟨h2, h3⟩
        have hlast : last y m = dim y m := by unfold last; rw [if_pos hy]
        rw [e1 hy h2 h3, mn_min, mn_min]
        congr 4
        split <;> split <;> omega
      · rw [if_neg hl, rright_ok]
        simp only [Option.bind_some]
        refine ⟨fun hy h2 h3 => ?_, fun hy => ?_⟩
        · have := dim_bd y m ⟨h2, h3⟩
          have hlast : last y m = dim y m := by unfold last; rw [if_pos hy]
          rw [mn_min, if_pos (by omega), show decide (ok y m d) = true by simp; exact ⟨hy, by omega, by omega⟩]
        · exact ⟨y, m, d, by rw [show decide (ok y m d) = false by simp; exact fun h => hy h.1]⟩
    · rw [if_neg h28, rright_ok]
      simp only [Option.bind_some]
      refine ⟨fun hy h2 h3 => ?_, fun hy => ?_⟩
      · have := dim_bd y m ⟨h2, h3⟩
        rw [mn_min, if_pos (by omega), show decide (ok y m d) = true by simp; exact ⟨hy, by omega, by omega⟩]
      · exact ⟨y, m, d, by rw [show decide (ok y m d) = false by simp; exact fun h => hy h.1]⟩
/-- What is told of a day so many months on, where months are counted from the year 0 on. -/
def RM (t d : Int) (r : Option (Int × Int × Int × Bool)) : Prop :=
  (yok (t / 12) → r = some (t / 12, t % 12 + 1, mn d (dim (t / 12) (t % 12 + 1)), true)) ∧ (¬ yok (t / 12) → ∃ a b c, r = some (a, b, c, false))
theorem rm_end {y m d t : Int} (hm : 1 ≤ m ∧ m ≤ 12) (hd : 1 ≤ d ∧ d ≤ 31) (h : t = 12 * y + m - 1 ∨ (y = 2200 ∧ 12 * 2200 ≤ t) ∨ (y = 1899 ∧ t < 12 * 1900)) {k : Nat} (hk : 5 ≤ k) :
    RM t d (stipendref03_Months.l2 k y m d) := by
  obtain ⟨e1, e2⟩ := rm_l2 (y := y) (m := m) 3 k d (by omega) (by omega) (by omega) (by omega)
  refine ⟨fun hy => ?_, fun hy => ?_⟩
  · have hy' := hy
    unfold yok at hy'
    rcases h with h | h | h
    · obtain rfl : y = t / 12 := by omega
      obtain rfl : m = t % 12 + 1 := by omega
      exact e1 hy (by omega) (by omega)
    · omega
    · omega
  · unfold yok at hy
    exact e2 (by unfold yok; omega)
theorem rm_up {d y0 m0 t : Int} (hd : 1 ≤ d ∧ d ≤ 31) : ∀ (j : Nat) (k : Nat) (y m : Int), t = 12 * y + m - 1 + j → 1900 ≤ y → y ≤ 2200 → 1 ≤ m → m ≤ 12 → 2 * j + 20 ≤ k → j ≤ 100000 → RM t d (stipendref03_Months.l0 k (j : Int) y m y0 m0 d) := by
  intro j
  induction j with
  | zero =>
    intro k y m ht hy1 hy2 hm1 hm2 hk hj
    obtain ⟨k, rfl⟩ : ∃ n, k = n + 1 + 1 + 1 + 1 := ⟨k - 4, by omega⟩
    simp only [stipendref03_Months.l0]
    rw [if_neg (by omega)]
    simp only [stipendref03_Months.j1, Bool.false_eq_true, if_false, stipendref03_Months.l1]
    rw [if_neg (by omega)]
    simp only [stipendref03_Months.j3, Bool.false_eq_true, if_false]
    exact rm_end ⟨hm1, hm2⟩ hd (Or.inl (by omega)) (by omega)
  | succ j ih =>
    intro k y m ht hy1 hy2 hm1 hm2 hk hj
    obtain ⟨k, rfl⟩ : ∃ n, k = n + 1 + 1 := ⟨k - 2, by omega⟩
    generalize hK : k + 1 = K
    simp only [stipendref03_Months.l0]
    subst hK
    rw [if_pos (by omega)]
    by_cases hy : y ≤ 2199
    · rw [show decide (y ≤ 2199) = true by simpa using hy]
      simp only [stipendref03_Months.j1, if_true]
      rw [w64 (x := m + 1) (by omega), w64 (x := ((j + 1 : Nat) : Int) - 1) (by omega), w64 (x := y + 1) (by omega), show ((j + 1 : Nat) : Int) - 1 = (j : Int) by omega]
      by_cases h12 : m + 1 > 12
      · rw [if_pos h12]
        exact ih k (y + 1) 1 (by omega) (by omega) (by omega) (by omega) (by omega) (by omega) (by omega)
      · rw [if_neg h12]
        exact ih k y (m + 1) (by omega) (by omega) (by omega) (by omega) (by omega) (by omega) (by omega)
    · obtain ⟨k, rfl⟩ : ∃ n, k = n + 1 + 1 := ⟨k - 2, by omega⟩
      rw [show decide (y ≤ 2199) = false by simpa using hy]
      simp only [stipendref03_Months.j1, Bool.false_eq_true, if_false, stipendref03_Months.l1]
      rw [if_neg (by omega)]
      simp only [stipendref03_Months.j3, Bool.false_eq_true, if_false]
      exact rm_end ⟨hm1, hm2⟩ hd (Or.inr (Or.inl ⟨by omega, by omega⟩)) (by omega)
theorem rm_down {d y0 m0 t : Int} (hd : 1 ≤ d ∧ d ≤ 31) : ∀ (j : Nat) (k : Nat) (y m : Int), t = 12 * y + m - 1 - j → 1899 ≤ y → y ≤ 2200 → 1 ≤ m → m ≤ 12 → 2 * j + 20 ≤ k → j ≤ 100000 → RM t d (stipendref03_Months.l1 k (-(j : Int)) y m y0 m0 d) := by
  intro j
  induction j with
  | zero =>
    intro k y m ht hy1 hy2 hm1 hm2 hk hj
    obtain ⟨k, rfl⟩ : ∃ n, k = n + 1 + 1 := ⟨k - 2, by omega⟩
    simp only [stipendref03_Months.l1]
    rw [if_neg (by omega)]
    simp only [stipendref03_Months.j3, Bool.false_eq_true, if_false]
    exact rm_end ⟨hm1, hm2⟩ hd (Or.inl (by omega)) (by omega)
  | succ j ih =>
    intro k y m ht hy1 hy2 hm1 hm2 hk hj
    obtain ⟨k, rfl⟩ : ∃ n, k = n + 1 + 1 := ⟨k - 2, by omega⟩
    generalize hK : k + 1 = K
    simp only [stipendref03_Months.l1]
    subst hK
    rw [if_pos (by omega)]
    by_cases hy : y ≥ 1900
    · rw [show decide (y ≥ 1900) = true by simpa using hy]
      simp only [stipendref03_Months.j3, if_true]
      rw [w64 (x := m - 1) (by omega), w64 (x := -((j + 1 : Nat) : Int) + 1) (by omega), w64 (x := y - 1) (by omega), show -((j + 1 : Nat) : Int) + 1 = -(j : Int) by omega]
      by_cases h12 : m - 1 < 1
      · rw [if_pos h12]
        exact ih k (y - 1) 12 (by omega) (by omega) (by omega) (by omega) (by omega) (by omega) (by omega)
      · rw [if_neg h12]
        exact ih k y (m - 1) (by omega) (by omega) (by omega) (by omega) (by omega) (by omega) (by omega)
    · rw [show decide (y ≥ 1900) = false by simpa using hy]
      simp only [stipendref03_Months.j3, Bool.false_eq_true, if_false]
      exact rm_end ⟨hm1, hm2⟩ hd (Or.inr (Or.inr ⟨by omega, by omega⟩)) (by omega)
theorem rmonths_ok {y m d b : Int} (h : ok y m d) (hb : -5000 ≤ b ∧ b ≤ 5000) {k : Nat} (hk : 11000 ≤ k) : RM (12 * y + m - 1 + b) d (stipendref03_Months.f k y m d b) := by
  have hd := ok_bd h
  unfold stipendref03_Months.f
  rw [rright_ok]
  simp only [h, decide_true, Option.bind_some, if_true]
  by_cases h0 : 0 ≤ b
  · have := rm_up (d := d) (y0 := y) (m0 := m) (t := 12 * y + m - 1 + b) (by omega) b.toNat k y m (by omega) (by omega) (by omega) (by omega) (by omega) (by omega) (by omega)
    rwa [show ((b.toNat : Nat) : Int) = b by omega] at this
  · obtain ⟨k, rfl⟩ : ∃ n, k = n + 1 + 1 := ⟨k - 2, by omega⟩
    have := rm_down (d := d) (y0 := y) (m0 := m) (t := 12 * y + m - 1 + b) (by omega) (-b).toNat k y m (by omega) (by omega) (by omega) (by omega) (by omega) (by omega) (by omega)
    generalize hK : k + 1 = K
    simp only [stipendref03_Months.l0]
    subst hK
    rw [if_neg (by omega)]
    simp only [stipendref03_Months.j1, Bool.false_eq_true, if_false]
    rwa [show -(((-b).toNat : Nat) : Int) = b by omega] at this
theorem rmonths_no {y m d b : Int} (h : ¬ ok y m d) (k : Nat) : stipendref03_Months.f k y m d b = some (0, 0, 0, false) := by
  unfold stipendref03_Months.f
  rw [rright_ok]
  simp [h]
end Go.Proofs.Ytojinnnckfimhaa.Pure
