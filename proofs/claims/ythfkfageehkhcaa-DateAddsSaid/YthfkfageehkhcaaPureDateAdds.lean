/- The law DateAdds of the package stipendlaw03 holds for every input: so many days on is the day of so many more; the days between are as many; from one day to the next the weekday goes on by one. No condition. -/
import Derived.Test.YthfkfageehkhcaaX13
import Derived.Test.YthfkfageehkhcaaMAdd
namespace Go.Proofs.Ythfkfageehkhcaa.Pure
open Go.RowKit Go.Proofs.Ythfkfageehkhcaa.X Go.Proofs.YthfkfageehkhcaaW.PrintWords Go.Proofs.YthfkfageehkhcaaW.PrintLast

theorem dadds_bad {k : Nat} {b n y m d : Int} : stipendlaw03_DateAdds.j0 (k + 1) b 30 n true y m d 0 0 0 = some true := by
  simp [stipendlaw03_DateAdds.j0]
theorem DateAdds : stipendlaw03_DateAdds.Pure := by
  intro y m d b _ _ _ hb
  have hb := wf64 hb
  refine ⟨499 + 1, ?_⟩
  unfold stipendlaw03_DateAdds.f
  rw [days_ok (by omega), rnumber_ok (by omega)]
  simp only [Option.bind_some, if_true]
  by_cases ho : ok y m d
  · have hr := num_range ho
    simp only [ho, if_true]
    by_cases hin : 0 ≤ num y m d + b ∧ num y m d + b < 109573
    · obtain ⟨y', m', d', e1, e2, e3⟩ := add_ok ho hin (k := 499 + 1) (by omega)
      obtain ⟨y2, m2, d2, f1, f2, f3⟩ := rof_ok hin (k := 499) (by omega)
      obtain ⟨rfl, rfl, rfl⟩ := num_inj e2 f2 (e3.trans f3.symm)
      rw [e1]
      simp only [Option.bind_some]
      rw [if_neg (by omega), if_neg (by omega), show decide (b < -200000) = false by simp; omega]
      have hK : 3 ≤ 499 := by omega
      generalize 499 = K at *
      simp only [stipendlaw03_DateAdds.j0, Bool.false_eq_true, if_false]
      rw [w64 (x := num y m d + b) (by omega), f1]
      simp only [Option.bind_some, if_true]
      rw [between_ok hK, weekday_ok hK, weekday_ok hK]
      simp only [ho, e2, and_self, if_true, Option.bind_some]
      rw [if_pos (by simp), e3, if_pos (by omega), w64 (x := (num y m d + b) % 7 - num y m d % 7) (by omega), w64 (x := (num y m d + b) % 7 - num y m d % 7 - b) (by omega)]
      have hz : ((num y m d + b) % 7 - num y m d % 7 - b) % 7 = 0 := by omega
      have ht : Int.tmod ((num y m d + b) % 7 - num y m d % 7 - b) 7 = 0 := Int.tmod_eq_zero_of_dvd (Int.dvd_of_emod_eq_zero hz)
      rw [ht, show wrap64 (0 + 7) = 7 from w64 (by omega)]
      rfl
    · rw [add_no (by omega) (by omega)]
      simp only [Option.bind_some]
      rw [if_neg (by omega)]
      by_cases h1 : b > 200000
      · rw [if_pos h1]; exact dadds_bad
      · rw [if_neg h1]
        by_cases h2 : b < -200000
        · rw [show decide (b < -200000) = true by simpa using h2]; exact dadds_bad
        · rw [show decide (b < -200000) = false by simpa using h2]
          have f1 := rof_no (n := num y m d + b) (by omega) (by omega) (k := 499) (by omega)
          generalize 499 = K at *
          simp only [stipendlaw03_DateAdds.j0, Bool.false_eq_true, if_false]
          rw [w64 (x := num y m d + b) (by omega), f1]
          simp
  · rw [add_no (Or.inl ho) (by omega)]
    simp only [ho, if_false, Option.bind_some]
    rw [if_pos (by omega)]
    exact dadds_bad

end Go.Proofs.Ythfkfageehkhcaa.Pure
