/- The law PeriodCovers, over numbers alone: a year's periods follow each other without a gap, from its first day to its last one; each day is in the one that its number tells, and in no other. -/
import Derived.Test.YtojinnnckfimhaaX0
import Derived.Test.YtojinnnckfimhaaXperiodYearStart
import Derived.Test.YtojinnnckfimhaaXdateCompare
import Derived.Test.YtojinnnckfimhaaXstipendlaw04PeriodCovers
import Derived.Test.YtojinnnckfimhaaMYear
import Derived.Test.YtojinnnckfimhaaMCuts
import Derived.Test.YtojinnnckfimhaaMOf
namespace Go.Proofs.Ytojinnnckfimhaa.Pure
open Go.RowKit Go.Proofs.Ytojinnnckfimhaa.X Go.Proofs.YtojinnnckfimhaaW.PrintWords Go.Proofs.YtojinnnckfimhaaW.PrintLast

theorem compare_le {y m d y' m' d' : Int} (h : ok y m d) (h' : ok y' m' d') (hl : num y m d ≤ num y' m' d') : ∃ r, date_Compare.f y m d y' m' d' = some r ∧ r ≤ 0 := by
  unfold date_Compare.f
  by_cases h1 : y < y'
  · rw [if_pos h1]; exact ⟨-1, rfl, by omega⟩
  · rw [if_neg h1]
    by_cases h2 : y > y'
    · have := num_lt h' h (Or.inl h2); omega
    · rw [if_neg h2]
      have hy : y = y' := by omega
      by_cases h3 : m < m'
      · rw [if_pos h3]; exact ⟨-1, rfl, by omega⟩
      · rw [if_neg h3]
        by_cases h4 : m > m'
        · have := num_lt h' h (Or.inr ⟨hy.symm, Or.inl h4⟩); omega
        · rw [if_neg h4]
          have hm : m = m' := by omega
          by_cases h5 : d < d'
          · rw [if_pos h5]; exact ⟨-1, rfl, by omega⟩
          · rw [if_neg h5]
            by_cases h6 : d > d'
            · have := num_lt h' h (Or.inr ⟨hy.symm, Or.inr ⟨hm.symm, h6⟩⟩); omega
            · rw [if_neg h6]; exact ⟨0, rfl, by omega⟩
theorem pc_end {f y m d ey em ed n c t : Int} (h : YS f y m d ey em ed n c) {K : Nat} (hK : 450 ≤ K) : stipendlaw04_PeriodCovers.j2 K t (n + c) (decide (t > 400)) y m d f y m d ey em ed n c = some true ∨ t < 0 := by
  obtain ⟨K, rfl⟩ : ∃ q, K = q + 1 := ⟨K - 1, by omega⟩
  have hc := ys_c h
  have hn := ys_n h
  by_cases h0 : t < 0
  · exact Or.inr h0
  refine Or.inl ?_
  by_cases h4 : t > 400
  · rw [decide_eq_true h4]
    simp only [stipendlaw04_PeriodCovers.j2, if_true]
  · rw [decide_eq_false h4]
    simp only [stipendlaw04_PeriodCovers.j2, Bool.false_eq_true, if_false]
    rw [rnumber_ok (by omega), if_pos h.ho, ← h.hn]
    simp only [Option.bind_some]
    rw [w64 (by omega)]
    by_cases hr : n + t < 109573
    · obtain ⟨a, b, e, a1, a2, a3⟩ := rof_ok (n := n + t) (by omega) (k := K) (by omega)
      rw [a1]
      simp only [Option.bind_some, if_true]
      by_cases hin : n + t < n + c
      · obtain ⟨k, i1, i2, i3, i4, i5⟩ := index_in h a2 (by omega) (K := K) (by omega)
        obtain ⟨p, q, r, p', q', r', s1, s2, s3, s4, s5⟩ := span_ok h ⟨i2, i3⟩ (K := K) (by omega)
        obtain ⟨x1, c1, c2⟩ := compare_le s2 a2 (by omega)
        obtain ⟨x2, d1, d2⟩ := compare_le a2 s4 (by omega)
        rw [i1, rnumber_ok (by omega), if_pos a2]
        simp only [Option.bind_some]
        rw [if_neg (by omega), s1]
        simp only [Option.bind_some, if_true]
        rw [c1, d1]
        simp only [Option.bind_some]
        rw [if_pos c2, decide_eq_true d2]
      · rw [index_out h a2 (by omega) (by omega), rnumber_ok (by omega), if_pos a2]
        simp only [Option.bind_some]
        rw [if_pos (by omega)]
        rfl
    · rw [rof_no (by omega) (by omega) (by omega)]
      rfl
theorem pc_l0 {f y m d ey em ed n c t : Int} (h : YS f y m d ey em ed n c) : ∀ (j : Nat) (k : Int) (K : Nat), 1 ≤ k → k + j = cnt f + 1 → 2 * j + 500 ≤ K →
    stipendlaw04_PeriodCovers.l0 K t (bgn f y m d n c k) k y m d f y m d ey em ed n c = some true := by
  have hc := ys_c h
  have hn := ys_n h
  have hen := h.hen
  have hcb := cnt_bd h.f1 h.f4
  intro j
  induction j with
  | zero =>
    intro k K h1 hk hK
    obtain ⟨K, rfl⟩ : ∃ q, K = q + 1 + 1 := ⟨K - 2, by omega⟩
    obtain rfl : k = cnt f + 1 := by omega
    generalize hQ : K + 1 = Q
    simp only [stipendlaw04_PeriodCovers.l0]
    rw [count_ok h]
    simp only [Option.bind_some]
    rw [if_neg (by omega), bgn_end h]
    unfold period_Year_End.f
    simp only [Option.bind_some]
    rw [rnumber_ok (by omega), if_pos h.he]
    simp only [Option.bind_some]
    rw [w64 (by omega), if_pos (by omega)]
    by_cases h0 : t < 0
    · rw [if_pos h0]
      subst hQ
      simp only [stipendlaw04_PeriodCovers.j2, if_true]
    · rw [if_neg h0]
      rcases pc_end h (t := t) (K := Q) (by omega) with he | he
      · exact he
      · exact absurd he h0
  | succ j ih =>
    intro k K h1 hk hK
    obtain ⟨K, rfl⟩ : ∃ q, K = q + 1 + 1 := ⟨K - 2, by omega⟩
    have r1 := bgn_rng h (k := k) (by omega)
    have r2 := bgn_rng h (k := k + 1) (by omega)
    have r3 := bgn_step h (k := k) (by omega)
    generalize hQ : K + 1 = Q
    obtain ⟨p, q, r, p', q', r', s1, s2, s3, s4, s5⟩ := span_ok h (k := k) (by omega) (K := Q) (by omega)
    simp only [stipendlaw04_PeriodCovers.l0]
    rw [count_ok h]
    simp only [Option.bind_some]
    rw [if_pos (by omega), s1]
    simp only [Option.bind_some]
    rw [rnumber_ok (by omega), rnumber_ok (by omega), if_pos s2, if_pos s4, s3, s5]
    simp only [Option.bind_some, if_true]
    rw [if_neg (by omega), w64 (x := bgn f y m d n c k + 30) (by omega), decide_eq_false (by omega : ¬ bgn f y m d n c (k + 1) - 1 > bgn f y m d n c k + 30)]
    subst hQ
    simp only [stipendlaw04_PeriodCovers.j1, Bool.false_eq_true, if_false]
    rw [index_is h s2 (k := k) (by omega) (by omega) (by omega) (by omega)]
    simp only [Option.bind_some]
    rw [index_is h s4 (k := k) (by omega) (by omega) (by omega) (by omega)]
    simp only [Option.bind_some, if_true]
    rw [w64 (x := bgn f y m d n c (k + 1) - 1 + 1) (by omega), w64 (x := k + 1) (by omega), show bgn f y m d n c (k + 1) - 1 + 1 = bgn f y m d n c (k + 1) by omega]
    exact ih (k + 1) K (by omega) (by omega) (by omega)
theorem PeriodCovers : stipendlaw04_PeriodCovers.Pure := by
  intro f y m d t _ _ _ _ _
  refine ⟨1000, ?_⟩
  unfold stipendlaw04_PeriodCovers.f
  rw [cuts_ok (by omega)]
  simp only [Option.bind_some, if_true]
  by_cases hg : good f y m d
  · obtain ⟨ey, em, ed, e1, h⟩ := new_yes hg (k := 1000) (by omega)
    have hcb := cnt_bd h.f1 h.f4
    rw [if_pos ((made_iff _ _ _ _).2 hg), e1, rnumber_ok (by omega), if_pos h.ho]
    simp only [Option.bind_some]
    have := pc_l0 h (t := t) (cnt f).toNat 1 1000 (by omega) (by omega) (by omega)
    rwa [bgn_1 h] at this
  · rw [if_neg (fun h => hg ((made_iff _ _ _ _).1 h)), (new_no hg (k := 1000) (by omega)).2]
    rfl

end Go.Proofs.Ytojinnnckfimhaa.Pure
