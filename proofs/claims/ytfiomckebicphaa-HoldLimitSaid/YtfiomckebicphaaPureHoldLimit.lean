/- The law HoldLimit of the package stipendlaw14 holds for every input: of a period's cash never more than the limit's rate of it is withheld, without what is behind the point; of none, or less, nothing. No condition. -/
import Derived.Test.YtfiomckebicphaaX0
import Derived.Test.YtfiomckebicphaaXstipendlaw14HoldLimit
import Derived.Test.YtfiomckebicphaaMHold
namespace Go.Proofs.Ytfiomckebicphaa.Pure
open Go Go.RowKit Go.Proofs.Ytfiomckebicphaa.X Go.Proofs.YtfiomckebicphaaW.PrintWords Go.Proofs.YtfiomckebicphaaW.PrintLast Go.Proofs.YtfiomckebicphaaW.PrintMore

theorem HoldLimit : stipendlaw14_HoldLimit.Pure := by
  intro r c hr hc
  have hr := wf64 hr
  have hc := wf64 hc
  refine ⟨99 + 1, ?_⟩
  have hp := pos_bd c
  unfold stipendlaw14_HoldLimit.f
  rw [holds_ok (by omega), limit_any _ _ _ (by omega)]
  simp only [Option.bind_some, if_true]
  generalize 99 = K
  by_cases hbig : c > 100000000000
  · have hno : ¬ okM (pos c) := fun h => by have := okM_bd h; omega
    simp [hno, hbig]
  · rw [if_neg hbig]
    have hok : okM (pos c) := by unfold okM; omega
    simp only [hok, if_true]
    by_cases hrr : 0 ≤ r ∧ r ≤ 10000
    · rw [if_neg (by omega), show decide (r > 10000) = false by simp; omega]
      simp only [hrr, and_self, if_true, stipendlaw14_HoldLimit.j0, Bool.false_eq_true, if_false]
      by_cases h0 : c ≤ 0
      · rw [if_pos h0]
        have : pos c = 0 := by unfold pos; rw [if_neg (by omega)]
        unfold lim
        rw [this, Int.zero_mul]
        rfl
      · have hpc : pos c = c := by unfold pos; rw [if_pos (by omega)]
        have hl := lim_bd hok hrr
        have hb := part_bounds hok hrr
        rw [if_neg h0, w64 (x := lim r c * 10000) (by omega), w64 (x := lim r c + 1) (by omega), w64 (x := (lim r c + 1) * 10000) (by omega)]
        rw [hpc] at hb
        rw [w64 (x := c * r) (by omega)]
        have hd : lim r c = c * r / 10000 := by unfold lim; rw [hpc]
        rw [if_pos (by omega)]
        simp
        omega
    · simp only [hrr, if_false]
      by_cases h1 : r < 0
      · rw [if_pos h1]; simp [stipendlaw14_HoldLimit.j0]
      · rw [if_neg h1, show decide (r > 10000) = true by simp; omega]; simp [stipendlaw14_HoldLimit.j0]

end Go.Proofs.Ytfiomckebicphaa.Pure
