/- The law DateCounts of the package stipendlaw03 holds for every input: of any three numbers it is told whether they are a day, which one it is, counted from the first one on, and on which day of the week. No condition. -/
import Derived.Test.YthfkfageehkhcaaX8
import Derived.Test.YthfkfageehkhcaaMDate
namespace Go.Proofs.Ythfkfageehkhcaa.Pure
open Go.RowKit Go.Proofs.Ythfkfageehkhcaa.X Go.Proofs.YthfkfageehkhcaaW.PrintWords Go.Proofs.YthfkfageehkhcaaW.PrintLast

theorem text_no {y m d : Int} (h : ¬ ok y m d) {k : Nat} (hk : 3 ≤ k) : date_Text.f k y m d = some ⟨#[]⟩ := by
  unfold date_Text.f
  rw [right_ok hk]
  simp [h]
theorem DateCounts : stipendlaw03_DateCounts.Pure := by
  intro y m d _ _ _
  refine ⟨499 + 1, ?_⟩
  unfold stipendlaw03_DateCounts.f
  rw [days_ok (by omega), number_ok (by omega), weekday_ok (by omega), rnumber_ok (by omega), right_ok (by omega), last_ok (by omega), month_ok]
  simp only [Option.bind_some, if_true]
  have hz : (last y m != last y m) = false := by simp
  rw [hz]
  have ht := @text_no y m d
  have h499 : 3 ≤ 499 := by omega
  generalize 499 = K at *
  by_cases h : ok y m d
  · have hr := num_range h
    simp only [h, if_true, decide_true]
    rw [show decide (num y m d ≥ 0) = true by simpa using hr.1]
    simp only [bne_self_eq_false, Bool.false_eq_true, if_false, stipendlaw03_DateCounts.j0]
    rw [if_neg (by omega), tmodp hr.1]
    simp
  · simp only [h, if_false, decide_false]
    simp only [stipendlaw03_DateCounts.j0, ht h h499]
    simp

end Go.Proofs.Ythfkfageehkhcaa.Pure
