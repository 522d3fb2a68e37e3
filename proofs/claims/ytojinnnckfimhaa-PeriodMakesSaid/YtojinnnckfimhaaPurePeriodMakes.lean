/- The law PeriodMakes, over numbers alone: whether a day begins a tax year in periods of a frequency, and why it doesn't; the next one begins where it ends. -/
import Derived.Test.YtojinnnckfimhaaX0
import Derived.Test.YtojinnnckfimhaaXperiodYearStart
import Derived.Test.YtojinnnckfimhaaXperiodYearFreq
import Derived.Test.YtojinnnckfimhaaXstipendref03Months
import Derived.Test.YtojinnnckfimhaaXstipendlaw04PeriodMakes
import Derived.Test.YtojinnnckfimhaaMYear
import Derived.Test.YtojinnnckfimhaaMCuts
namespace Go.Proofs.Ytojinnnckfimhaa.Pure
open Go.RowKit Go.Proofs.Ytojinnnckfimhaa.X Go.Proofs.YtojinnnckfimhaaW.PrintWords Go.Proofs.YtojinnnckfimhaaW.PrintLast

theorem rmonths12 {y m d : Int} (ho : ok y m d) {K : Nat} (hK : 11000 ≤ K) :
    (y + 1 ≤ 2199 → stipendref03_Months.f K y m d 12 = some (y + 1, m, mn d (dim (y + 1) m), true)) ∧ (¬ y + 1 ≤ 2199 → ∃ a b c, stipendref03_Months.f K y m d 12 = some (a, b, c, false)) := by
  have hb := ok_bd ho
  have h := rmonths_ok ho (b := 12) (by omega) hK
  unfold RM at h
  rw [show (12 * y + m - 1 + 12) / 12 = y + 1 by omega, show (12 * y + m - 1 + 12) % 12 + 1 = m by omega] at h
  exact ⟨fun hy => h.1 (by unfold yok; omega), fun hy => h.2 (by unfold yok; omega)⟩
theorem rd_cnt {f c : Int} (h1 : 1 ≤ f) (h4 : f ≤ 4) (hc : c = 365 ∨ c = 366) :
    rd ([0, wrap64 (Int.tdiv (wrap64 (c + 6)) 7), wrap64 (Int.tdiv (wrap64 (c + 13)) 14), wrap64 (Int.tdiv (wrap64 (c + 27)) 28), 12] : List Int) f = cnt f := by
  rcases f_cases h1 h4 with rfl | rfl | rfl | rfl <;> rcases hc with rfl | rfl <;> decide +kernel
theorem nomi_cnt {f : Int} (h1 : 1 ≤ f) (h4 : f ≤ 4) : cnt f ≤ 53 ∧ cnt f ≥ nomi f := by
  rcases f_cases h1 h4 with rfl | rfl | rfl | rfl <;> decide
theorem PeriodMakes : stipendlaw04_PeriodMakes.Pure := by
  intro f y m d _ _ _ _
  obtain ⟨K, hK⟩ : ∃ K : Nat, K = 11500 := ⟨11500, rfl⟩
  refine ⟨K + 1 + 1 + 1 + 1, ?_⟩
  unfold stipendlaw04_PeriodMakes.f
  rw [cuts_ok (by omega)]
  simp only [Option.bind_some, if_true]
  by_cases hg : good f y m d
  · obtain ⟨ey, em, ed, e1, h⟩ := new_yes hg (k := K + 1 + 1 + 1 + 1) (by omega)
    rw [if_pos ((made_iff _ _ _ _).2 hg), e1]
    simp only [Option.bind_some]
    have hn := ys_n h
    have hc := ys_c h
    have hcc := h.hc
    have hnn := h.hn
    have hen := h.hen
    have h1 := h.f1
    have h4 := h.f4
    have hcn := nomi_cnt h1 h4
    have hon := ys_next h
    rw [if_neg (by omega), decide_eq_false (by omega : ¬ f > 4)]
    simp only [stipendlaw04_PeriodMakes.j0, Bool.false_eq_true, if_false]
    rw [(rmonths12 h.ho (by omega)).1 h.hy, mn_of_le hon.2.2]
    simp only [Option.bind_some, if_true]
    have e29 : (if m = 2 then stipendlaw04_PeriodMakes.j1 (K + 1 + 1 + 1) f 0 (d == 29) y m d f y m d ey em ed (num y m d) (num (y + 1) m d - num y m d) (y + 1) m d
        else stipendlaw04_PeriodMakes.j1 (K + 1 + 1 + 1) f 0 false y m d f y m d ey em ed (num y m d) (num (y + 1) m d - num y m d) (y + 1) m d)
        = stipendlaw04_PeriodMakes.j1 (K + 1 + 1 + 1) f 0 false y m d f y m d ey em ed (num y m d) (num (y + 1) m d - num y m d) (y + 1) m d := by
      by_cases h2 : m = 2
      · rw [if_pos h2, show (d == 29) = false by simp; exact fun hd => h.h29 ⟨h2, hd⟩]
      · rw [if_neg h2]
    rw [e29]
    simp only [stipendlaw04_PeriodMakes.j1, Bool.false_eq_true, if_false, if_true]
    unfold period_Year_Start.f period_Year_Freq.f
    simp only [Option.bind_some, beq_self_eq_true, Bool.not_true, Bool.or_self, Bool.false_eq_true, if_false, bne_self_eq_false]
    simp only [stipendlaw04_PeriodMakes.j2, Bool.false_eq_true, if_false]
    rw [rnumber_ok (by omega), rnumber_ok (by omega), if_pos hon, if_pos h.ho]
    unfold period_Year_End.f
    simp only [Option.bind_some]
    rw [between_ok (by omega), if_pos ⟨h.ho, h.he⟩, next_made h, next_A h (by omega)]
    simp only [Option.bind_some, if_true]
    have hw1 : wrap64 (num (y + 1) m d - num y m d) = num (y + 1) m d - num y m d := w64 (by omega)
    have hw2 : wrap64 (num (y + 1) m d - num y m d - 1) = num (y + 1) m d - num y m d - 1 := w64 (by omega)
    have hq : (num ey em ed - num y m d != num (y + 1) m d - num y m d - 1) = false := by simp; omega
    rw [hw1, hw2, hq]
    by_cases hy : y + 2 ≤ 2199
    · have hg' := (next_good h).2 hy
      obtain ⟨ey', em', ed', f1, h'⟩ := new_yes hg' (k := K + 1) (by omega)
      rw [if_pos ((made_iff _ _ _ _).2 hg'), f1]
      simp only [Option.bind_some]
      simp only [stipendlaw04_PeriodMakes.j3, Bool.false_eq_true, if_false]
      rw [(rmonths12 hon (by omega)).1 (by omega)]
      unfold period_Year_Start.f period_Year_Freq.f
      simp only [Option.bind_some, if_true, beq_self_eq_true, Bool.not_true, Bool.or_self, Bool.false_eq_true, if_false]
      rw [if_pos (by omega), if_pos (by omega), count_ok h, rd_cnt h1 h4 hc]
      simp only [Option.bind_some, if_true]
      rw [if_pos hcn.1, nominal_ok]
      simp only [Option.bind_some]
      rw [decide_eq_true hcn.2]
    · have hg' : ¬ good f (y + 1) m d := fun g => hy ((next_good h).1 g)
      rw [if_neg (fun g => hg' ((made_iff _ _ _ _).1 g)), next_B h hy (by omega)]
      simp only [Option.bind_some]
      simp only [stipendlaw04_PeriodMakes.j4, Bool.false_eq_true, if_false]
      obtain ⟨p, q, r, hr⟩ := (rmonths12 hon (K := K) (by omega)).2 (by omega)
      rw [hr]
      simp only [Option.bind_some, if_true, Bool.false_eq_true, if_false]
      rw [if_pos (by omega), if_pos (by omega), count_ok h, rd_cnt h1 h4 hc]
      simp only [Option.bind_some, if_true]
      rw [if_pos hcn.1, nominal_ok]
      simp only [Option.bind_some]
      rw [decide_eq_true hcn.2]
  · rw [if_neg (fun h => hg ((made_iff _ _ _ _).1 h)), (new_no hg (by omega)).2]
    simp only [Option.bind_some]
    by_cases hf : 1 ≤ f ∧ f ≤ 4
    · rw [if_pos hf, if_neg (by omega), decide_eq_false (by omega : ¬ f > 4)]
      simp only [stipendlaw04_PeriodMakes.j5, Bool.false_eq_true, if_false]
      have e30 : stipendlaw04_PeriodMakes.j6 (K + 1 + 1 + 1) 30 true = some true := rfl
      by_cases ho : ok y m d
      · by_cases hy : y + 1 ≤ 2199
        · have h29 : m = 2 ∧ d = 29 := Decidable.byContradiction fun h => hg ⟨hf.1, hf.2, ho, h, hy⟩
          rw [(rmonths12 ho (by omega)).1 hy]
          simp only [Option.bind_some, if_true]
          rw [if_pos h29.1, show (d == 29) = true by simp [h29.2], e30]
        · obtain ⟨p, q, r, hr⟩ := (rmonths12 ho (K := K + 1 + 1 + 1) (by omega)).2 hy
          rw [hr]
          simp only [Option.bind_some, Bool.false_eq_true, if_false]
          exact e30
      · rw [rmonths_no ho]
        simp only [Option.bind_some, Bool.false_eq_true, if_false]
        exact e30
    · rw [if_neg hf]
      by_cases h1 : f < 1
      · rw [if_pos h1]
        rfl
      · rw [if_neg h1, decide_eq_true (by omega : f > 4)]
        rfl

end Go.Proofs.Ytojinnnckfimhaa.Pure
