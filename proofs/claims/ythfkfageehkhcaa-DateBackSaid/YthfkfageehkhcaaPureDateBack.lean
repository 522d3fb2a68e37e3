/- The law DateBack of the package stipendlaw03 holds for every input: the day of any number has that number; beyond the last day there is none. No condition. -/
import Derived.Test.YthfkfageehkhcaaX9
import Derived.Test.YthfkfageehkhcaaMOf
namespace Go.Proofs.Ythfkfageehkhcaa.Pure
open Go.RowKit Go.Proofs.Ythfkfageehkhcaa.X Go.Proofs.YthfkfageehkhcaaW.PrintWords Go.Proofs.YthfkfageehkhcaaW.PrintLast

theorem DateBack : stipendlaw03_DateBack.Pure := by
  intro n hn
  have hn := wf64 hn
  refine ⟨499 + 1, ?_⟩
  unfold stipendlaw03_DateBack.f
  rw [days_ok (by omega)]
  simp only [Option.bind_some, if_true]
  have hK : 3 ≤ 499 := by omega
  by_cases h : 0 ≤ n ∧ n < 109573
  · obtain ⟨y, m, d, e1, e2, e3, e4⟩ := of_both h (k := 499 + 1) (k' := 499 + 1) (by omega) (by omega)
    rw [e1, e2]
    generalize 499 = K at *
    simp only [Option.bind_some, beq_self_eq_true, Bool.not_true, Bool.or_false, Bool.false_eq_true, if_false, bne_self_eq_false, if_true, stipendlaw03_DateBack.j0]
    rw [number_ok hK, if_pos e3, e4]
    simp
  · rw [of_no (by omega) (by omega), rof_no (by omega) hn.2 (by omega)]
    generalize 499 = K at *
    simp only [Option.bind_some, beq_self_eq_true, Bool.not_true, Bool.or_false, Bool.false_eq_true, if_false]
    by_cases h0 : n < 0
    · simp [stipendlaw03_DateBack.j0, h0]
    · simp [stipendlaw03_DateBack.j0, h0]
      omega

end Go.Proofs.Ythfkfageehkhcaa.Pure
