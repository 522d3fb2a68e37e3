/- The law PeriodOutside, over numbers alone: of days that there aren't, and of days outside a tax year, no period is told. -/
import Derived.Test.YtojinnnckfimhaaX0
import Derived.Test.YtojinnnckfimhaaXperiodYearStart
import Derived.Test.YtojinnnckfimhaaXstipendlaw04PeriodOutside
import Derived.Test.YtojinnnckfimhaaMYear
import Derived.Test.YtojinnnckfimhaaMCuts
namespace Go.Proofs.Ytojinnnckfimhaa.Pure
open Go.RowKit Go.Proofs.Ytojinnnckfimhaa.X Go.Proofs.YtojinnnckfimhaaW.PrintWords Go.Proofs.YtojinnnckfimhaaW.PrintLast

theorem PeriodOutside : stipendlaw04_PeriodOutside.Pure := by
  intro f y m d a b e _ _ _ _ _ _ _
  refine ⟨500, ?_⟩
  unfold stipendlaw04_PeriodOutside.f
  rw [cuts_ok (by omega)]
  simp only [Option.bind_some, if_true]
  by_cases hg : good f y m d
  · obtain ⟨ey, em, ed, e1, h⟩ := new_yes hg (k := 500) (by omega)
    rw [if_pos ((made_iff _ _ _ _).2 hg), e1]
    simp only [Option.bind_some]
    have hn := ys_n h
    have hc := ys_c h
    have hen := h.hen
    have hr := num_range h.ho
    by_cases ho : ok a b e
    · have hr := num_range ho
      by_cases hv : num y m d ≤ num a b e ∧ num a b e < num y m d + (num (y + 1) m d - num y m d)
      · obtain ⟨k, i1, i2, i3, _⟩ := index_in h ho hv (K := 500) (by omega)
        rw [i1, rnumber_ok (by omega), rnumber_ok (by omega), if_pos ho, if_pos h.ho]
        simp only [Option.bind_some]
        rw [if_neg (by omega), if_neg (by omega)]
        unfold period_Year_End.f
        simp only [Option.bind_some]
        rw [rnumber_ok (by omega), if_pos h.he]
        simp only [Option.bind_some]
        rw [if_neg (by omega), if_pos trivial, if_pos (by omega), count_ok h]
        simp only [Option.bind_some]
        rw [decide_eq_true i3]
      · have i1 := index_out h ho (by omega) (K := 500) (by omega)
        rw [i1, rnumber_ok (by omega), rnumber_ok (by omega), if_pos ho, if_pos h.ho]
        simp only [Option.bind_some]
        rw [if_neg (by omega)]
        by_cases hl : num a b e < num y m d
        · rw [if_pos hl]; rfl
        · rw [if_neg hl]
          unfold period_Year_End.f
          simp only [Option.bind_some]
          rw [rnumber_ok (by omega), if_pos h.he]
          simp only [Option.bind_some]
          rw [if_pos (by omega)]
          rfl
    · have i1 := index_no (f := f) (y := y) (m := m) (d := d) (ey := ey) (em := em) (ed := ed) (n := num y m d) (c := num (y + 1) m d - num y m d) ho (K := 500) (by omega)
      rw [i1, rnumber_ok (by omega), rnumber_ok (by omega), if_neg ho, if_pos h.ho]
      simp only [Option.bind_some]
      rw [if_pos (by omega)]
      rfl
  · rw [if_neg (fun h => hg ((made_iff _ _ _ _).1 h)), (new_no hg (k := 500) (by omega)).2]
    rfl

end Go.Proofs.Ytojinnnckfimhaa.Pure
