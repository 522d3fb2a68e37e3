/- Plain facts on days: the last workday that isn't behind a day. -/
import Derived.Test.YtojinnnckfimhaaX0
import Derived.Test.YtojinnnckfimhaaXdateWeekday
import Derived.Test.YtojinnnckfimhaaMAdd
namespace Go.Proofs.Ytojinnnckfimhaa.Pure
open Go.RowKit Go.Proofs.Ytojinnnckfimhaa.X Go.Proofs.YtojinnnckfimhaaW.PrintWords Go.Proofs.YtojinnnckfimhaaW.PrintLast

theorem workday_ok {y m d : Int} {k : Nat} (hk : 3 ≤ k) : date_Workday.f k y m d = some (decide (ok y m d ∧ num y m d % 7 < 5)) := by
  unfold date_Workday.f
  rw [weekday_ok hk]
  by_cases h : ok y m d
  · simp [h]
  · simp [h]
theorem back_no {y m d : Int} (h : ¬ ok y m d) {k : Nat} (hk : 50 ≤ k) : date_Back.f k y m d = some (0, 0, 0, 30) := by
  obtain ⟨k, rfl⟩ : ∃ n, k = n + 1 := ⟨k - 1, by omega⟩
  unfold date_Back.f
  simp only [date_Back.l0]
  rw [if_pos (by omega), workday_ok (by omega), add_no (Or.inl h) (by omega)]
  simp [h]
theorem back_step {y m d : Int} (h : ok y m d) (hw : ¬ num y m d % 7 < 5) (i : Int) (hi : 0 ≤ i ∧ i < 3) {k : Nat} (hk : 45 ≤ k) :
    ∃ y' m' d', ok y' m' d' ∧ num y' m' d' = num y m d - 1 ∧ date_Back.l0 (k + 1) i y m d = date_Back.l0 k (i + 1) y' m' d' := by
  have hr := num_range h
  obtain ⟨y', m', d', e1, e2, e3⟩ := add_ok h (b := -1) (by omega) (k := k) (by omega)
  refine ⟨y', m', d', e2, by omega, ?_⟩
  simp only [date_Back.l0]
  rw [if_pos hi.2, workday_ok (by omega), e1, show decide (ok y m d ∧ num y m d % 7 < 5) = false by simp; intro _; omega]
  simp only [Option.bind_some, Bool.false_eq_true, if_false, if_true]
  rw [w64 (by omega)]
theorem back_done {y m d : Int} (h : ok y m d) (hw : num y m d % 7 < 5) (i : Int) (hi : 0 ≤ i ∧ i < 3) {k : Nat} (hk : 5 ≤ k) : date_Back.l0 (k + 1) i y m d = some (y, m, d, 0) := by
  simp only [date_Back.l0]
  rw [if_pos hi.2, workday_ok (by omega), show decide (ok y m d ∧ num y m d % 7 < 5) = true by simp; exact ⟨h, hw⟩]
  simp
/-- The last workday that isn't behind a day. -/
def lastw (n : Int) : Int := if n % 7 < 5 then n else if n % 7 = 5 then n - 1 else n - 2
theorem back_ok {y m d : Int} (h : ok y m d) {k : Nat} (hk : 50 ≤ k) : ∃ y' m' d', date_Back.f k y m d = some (y', m', d', 0) ∧ ok y' m' d' ∧ num y' m' d' = lastw (num y m d) := by
  obtain ⟨k, rfl⟩ : ∃ n, k = n + 1 + 1 + 1 := ⟨k - 3, by omega⟩
  unfold date_Back.f lastw
  by_cases h0 : num y m d % 7 < 5
  · rw [if_pos h0]
    exact ⟨y, m, d, back_done h h0 0 (by omega) (by omega), h, rfl⟩
  · rw [if_neg h0]
    obtain ⟨y1, m1, d1, a1, a2, a3⟩ := back_step h h0 0 (by omega) (k := k + 1 + 1) (by omega)
    by_cases h1 : num y m d % 7 = 5
    · rw [if_pos h1, a3]
      exact ⟨y1, m1, d1, back_done a1 (by omega) (0 + 1) (by omega) (by omega), a1, a2⟩
    · rw [if_neg h1]
      obtain ⟨y2, m2, d2, b1, b2, b3⟩ := back_step a1 (by omega) (0 + 1) (by omega) (k := k + 1) (by omega)
      rw [a3, b3]
      exact ⟨y2, m2, d2, back_done b1 (by omega) (0 + 1 + 1) (by omega) (by omega), b1, by omega⟩
end Go.Proofs.Ytojinnnckfimhaa.Pure
