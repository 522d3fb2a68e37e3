/- Plain facts on days: so many days on. -/
import Derived.Test.YtojinnnckfimhaaX0
import Derived.Test.YtojinnnckfimhaaXdateAdd
import Derived.Test.YtojinnnckfimhaaMDate
namespace Go.Proofs.Ytojinnnckfimhaa.Pure
open Go.RowKit Go.Proofs.Ytojinnnckfimhaa.X Go.Proofs.YtojinnnckfimhaaW.PrintWords Go.Proofs.YtojinnnckfimhaaW.PrintLast

theorem add_no {y m d b : Int} (h : ¬ ok y m d ∨ num y m d + b < 0 ∨ 109573 ≤ num y m d + b) {k : Nat} (hk : 40 ≤ k) : date_Add.f k y m d b = some (0, 0, 0, 30) := by
  unfold date_Add.f
  rw [number_ok (by omega)]
  by_cases ho : ok y m d
  · have hr := num_range ho
    simp only [ho, if_true, Option.bind_some]
    by_cases h1 : b > 109573
    · rw [if_pos h1]
    · rw [if_neg h1]
      by_cases h2 : b < -109573
      · rw [if_pos h2]
      · rw [if_neg h2, w64 (by omega), of_no (by rcases h with h | h | h; exact absurd ho h; exact Or.inl h; exact Or.inr h) hk]
        rfl
  · simp [ho]
theorem add_ok {y m d b : Int} (ho : ok y m d) (h : 0 ≤ num y m d + b ∧ num y m d + b < 109573) {k : Nat} (hk : 40 ≤ k) :
    ∃ y' m' d', date_Add.f k y m d b = some (y', m', d', 0) ∧ ok y' m' d' ∧ num y' m' d' = num y m d + b := by
  have hr := num_range ho
  obtain ⟨y', m', d', e1, e2, e3⟩ := of_ok h hk
  refine ⟨y', m', d', ?_, e2, e3⟩
  unfold date_Add.f
  rw [number_ok (by omega)]
  simp only [ho, if_true, Option.bind_some]
  rw [if_neg (by omega), if_neg (by omega), w64 (by omega), e1]
  rfl
end Go.Proofs.Ytojinnnckfimhaa.Pure
