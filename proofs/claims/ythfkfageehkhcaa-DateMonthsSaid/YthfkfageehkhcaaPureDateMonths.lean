/- The law DateMonths of the package stipendlaw03 holds for every input: so many months on is the same day of the month, or its last one, if that is earlier. No condition. -/
import Derived.Test.YthfkfageehkhcaaX11
import Derived.Test.YthfkfageehkhcaaMMonths
namespace Go.Proofs.Ythfkfageehkhcaa.Pure
open Go.RowKit Go.Proofs.Ythfkfageehkhcaa.X Go.Proofs.YthfkfageehkhcaaW.PrintWords Go.Proofs.YthfkfageehkhcaaW.PrintLast

theorem dmonths_j0 {k : Nat} {b y m d : Int} (e : Int) (c : Bool) (h : (c = true ∧ e = 30) ∨ (c = false ∧ ∃ p q r, stipendref03_Months.f k y m d b = some (p, q, r, false) ∧ e = 30)) :
    stipendlaw03_DateMonths.j0 (k + 1) b e c y m d 0 0 0 = some true := by
  simp only [stipendlaw03_DateMonths.j0]
  rcases h with ⟨rfl, rfl⟩ | ⟨rfl, p, q, r, h, rfl⟩
  · simp
  · simp [h]
theorem DateMonths : stipendlaw03_DateMonths.Pure := by
  intro y m d b _ _ _ hb
  have hb := wf64 hb
  refine ⟨11999 + 1, ?_⟩
  unfold stipendlaw03_DateMonths.f
  rw [days_ok (by omega)]
  simp only [Option.bind_some, if_true]
  by_cases hbig : 5000 < b ∨ b < -5000
  · rw [months_no (by omega) (by omega)]
    simp only [Option.bind_some]
    by_cases h1 : b > 5000
    · rw [if_pos h1]; exact dmonths_j0 30 true (Or.inl ⟨rfl, rfl⟩)
    · rw [if_neg h1]; exact dmonths_j0 30 _ (Or.inl ⟨by simp; omega, rfl⟩)
  · have hc : decide (b < -5000) = false := by simp; omega
    have hK : 11000 ≤ 11999 := by omega
    by_cases ho : ok y m d
    · have hd := ok_bd ho
      have hr := rmonths_ok ho (b := b) (by omega) hK
      by_cases hs : -3600 ≤ b ∧ b ≤ 3600
      · rw [months_ok ho hs (by omega)]
        by_cases hy : yok ((12 * y + m - 1 + b) / 12)
        · have hr1 := hr.1 hy
          simp only [hy, if_true, Option.bind_some]
          rw [if_neg (by omega), hc]
          generalize 11999 = K at *
          simp only [stipendlaw03_DateMonths.j0, Bool.false_eq_true, if_false, hr1, Option.bind_some, if_true]
          simp
        · obtain ⟨p, q, r, hr2⟩ := hr.2 hy
          simp only [hy, if_false, Option.bind_some]
          rw [if_neg (by omega)]
          exact dmonths_j0 30 _ (Or.inr ⟨hc, p, q, r, hr2, rfl⟩)
      · obtain ⟨p, q, r, hr2⟩ := hr.2 (by unfold yok; omega)
        rw [months_no (by omega) (by omega)]
        simp only [Option.bind_some]
        rw [if_neg (by omega)]
        exact dmonths_j0 30 _ (Or.inr ⟨hc, p, q, r, hr2, rfl⟩)
    · rw [months_no (Or.inl ho) (by omega)]
      simp only [Option.bind_some]
      rw [if_neg (by omega)]
      exact dmonths_j0 30 _ (Or.inr ⟨hc, 0, 0, 0, rmonths_no ho _, rfl⟩)

end Go.Proofs.Ythfkfageehkhcaa.Pure
