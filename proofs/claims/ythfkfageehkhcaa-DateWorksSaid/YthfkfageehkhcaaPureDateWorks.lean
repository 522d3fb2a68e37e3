/- The law DateWorks of the package stipendlaw03 holds for every input: the workdays of any stretch are those that are found day by day; the last one that isn't behind a day is one, and none is between. No condition. -/
import Derived.Test.YthfkfageehkhcaaX0
import Derived.Test.YthfkfageehkhcaaX31
import Derived.Test.YthfkfageehkhcaaX35
import Derived.Test.YthfkfageehkhcaaMBack
namespace Go.Proofs.Ythfkfageehkhcaa.Pure
open Go.RowKit Go.Proofs.Ythfkfageehkhcaa.X Go.Proofs.YthfkfageehkhcaaW.PrintWords Go.Proofs.YthfkfageehkhcaaW.PrintLast

theorem works_l1 {y m d y' m' d' b : Int} (h : ok y m d) (h' : ok y' m' d') (hb : -400 ≤ b ∧ b ≤ 400) (he : num y' m' d' = num y m d + b) : ∀ (j : Nat) (k : Nat) (c i : Int), i + j = num y m d + b + 1 → num y m d ≤ i → j + 10 ≤ k → j ≤ 500 →
    c = ahead i - ahead (num y m d) → stipendlaw03_DateWorks.l1 k b (num y m d) c i y m d y' m' d' = some true := by
  have hr := num_range h
  have hr' := num_range h'
  intro j
  induction j with
  | zero =>
    intro k c i hi h1 hk hj hc
    obtain ⟨k, rfl⟩ : ∃ n, k = n + 1 := ⟨k - 1, by omega⟩
    simp only [stipendlaw03_DateWorks.l1]
    rw [w64 (x := num y m d + b) (by omega), if_neg (by omega), workdays_ok h h' (by omega)]
    simp only [Option.bind_some, if_true]
    have e : i = num y' m' d' + 1 := by omega
    by_cases hl : num y' m' d' < num y m d
    · rw [if_pos hl, hc]
      rw [show i = num y m d by omega]
      simp
    · rw [if_neg hl, hc, e]
      simp
  | succ j ih =>
    intro k c i hi h1 hk hj hc
    obtain ⟨k, rfl⟩ : ∃ n, k = n + 1 := ⟨k - 1, by omega⟩
    have b1 := ahead_bd (n := i) (by omega)
    have b2 := ahead_bd (n := num y m d) (by omega)
    have hs := ahead_succ i
    simp only [stipendlaw03_DateWorks.l1]
    rw [w64 (x := num y m d + b) (by omega), if_pos (by omega), tmodp (by omega), w64 (x := c + 1) (by omega), w64 (x := i + 1) (by omega)]
    by_cases hw : i % 7 < 5
    · rw [if_pos hw] at hs
      rw [if_pos hw]
      exact ih k (c + 1) (i + 1) (by omega) (by omega) (by omega) (by omega) (by omega)
    · rw [if_neg hw] at hs
      rw [if_neg hw]
      exact ih k c (i + 1) (by omega) (by omega) (by omega) (by omega) (by omega)
theorem works_j2 {y m d b : Int} (h : ok y m d) (hb : -9223372036854775808 ≤ b ∧ b ≤ 9223372036854775807) {k : Nat} (hk : 1000 ≤ k) : stipendlaw03_DateWorks.j2 k b (num y m d) false y m d = some true := by
  have hr := num_range h
  obtain ⟨k, rfl⟩ : ∃ n, k = n + 1 + 1 := ⟨k - 2, by omega⟩
  generalize hK : k + 1 = K
  simp only [stipendlaw03_DateWorks.j2, Bool.false_eq_true, if_false]
  subst hK
  by_cases h1 : b < -400
  · rw [if_pos h1]; simp [stipendlaw03_DateWorks.j3]
  · rw [if_neg h1]
    by_cases h2 : b > 400
    · rw [show decide (b > 400) = true by simpa using h2]; simp [stipendlaw03_DateWorks.j3]
    · rw [show decide (b > 400) = false by simpa using h2]
      simp only [stipendlaw03_DateWorks.j3, Bool.false_eq_true, if_false]
      rw [w64 (x := num y m d + b) (by omega)]
      by_cases hin : 0 ≤ num y m d + b ∧ num y m d + b < 109573
      · obtain ⟨y', m', d', e1, e2, e3⟩ := rof_ok hin (k := k) (by omega)
        rw [e1]
        simp only [Option.bind_some, if_true]
        by_cases hneg : b < 0
        · obtain ⟨k, rfl⟩ : ∃ n, k = n + 1 := ⟨k - 1, by omega⟩
          have hr' := num_range e2
          simp only [stipendlaw03_DateWorks.l1]
          rw [w64 (x := num y m d + b) (by omega), if_neg (by omega), workdays_ok h e2 (by omega), if_pos (by omega)]
          simp
        · exact works_l1 h e2 (by omega) e3 (b + 1).toNat k 0 (num y m d) (by omega) (by omega) (by omega) (by omega) (by omega)
      · rw [rof_no (by omega) (by omega) (by omega)]
        simp
theorem DateWorks : stipendlaw03_DateWorks.Pure := by
  intro y m d b _ _ _ hb
  have hb := wf64 hb
  refine ⟨1999 + 1, ?_⟩
  unfold stipendlaw03_DateWorks.f
  have hw0 : date_Workday.f (1999 + 1) 2024 1 31 = some true := by
    rw [workday_ok (by omega)]
    decide
  rw [days_ok (by omega), hw0]
  simp only [Option.bind_some, if_true]
  have hK : 1999 ≤ 1999 := Nat.le_refl _
  generalize hKe : 1999 = K at hK ⊢
  have hK2 : 1999 ≤ K := by omega
  simp only [stipendlaw03_DateWorks.j0, Bool.not_true, Bool.false_eq_true, if_false]
  rw [rnumber_ok (by omega)]
  by_cases ho : ok y m d
  · have hr := num_range ho
    obtain ⟨y', m', d', e1, e2, e3⟩ := back_ok ho (k := K) (by omega)
    rw [e1]
    simp only [ho, if_true, Option.bind_some]
    rw [if_neg (by omega)]
    have fin : ∀ (k : Nat), 1500 ≤ k → stipendlaw03_DateWorks.l0 (k + 1) b 0 (num y m d) (lastw (num y m d)) y m d y' m' d' = some true := by
      intro k hk
      have hl : lastw (num y m d) % 7 ≤ 4 ∧ 0 ≤ lastw (num y m d) ∧ lastw (num y m d) ≤ num y m d := by
        unfold lastw
        repeat' split
        all_goals omega
      obtain ⟨y2, m2, d2, f1, f2, f3⟩ := rof_ok (n := lastw (num y m d)) (by omega) (k := k) (by omega)
      obtain ⟨rfl, rfl, rfl⟩ := num_inj e2 f2 (e3.trans f3.symm)
      simp only [stipendlaw03_DateWorks.l0]
      rw [tmodp hl.2.1, if_neg (by omega), f1, workday_ok (by omega), tmodp hr.1]
      simp only [Option.bind_some, if_true, beq_self_eq_true, Bool.not_true, Bool.or_false, Bool.false_eq_true, if_false, ho, true_and, bne_self_eq_false]
      exact works_j2 ho hb (by omega)
    obtain ⟨K, rfl⟩ : ∃ n, K = n + 1 + 1 + 1 := ⟨K - 3, by omega⟩
    have step : ∀ (k : Nat) (x : Int), 0 ≤ x → x ≤ 200000 → x % 7 > 4 → stipendlaw03_DateWorks.l0 (k + 1) b 0 (num y m d) x y m d y' m' d' = stipendlaw03_DateWorks.l0 k b 0 (num y m d) (x - 1) y m d y' m' d' := by
      intro k x h0 h1 h2
      rw [show stipendlaw03_DateWorks.l0 (k + 1) b 0 (num y m d) x y m d y' m' d' = _ from by rw [stipendlaw03_DateWorks.l0]]
      rw [tmodp h0, if_pos h2, w64 (by omega)]
    have hlw : lastw (num y m d) = num y m d ∨ (num y m d % 7 > 4 ∧ lastw (num y m d) = num y m d - 1) ∨ (num y m d % 7 > 4 ∧ (num y m d - 1) % 7 > 4 ∧ lastw (num y m d) = num y m d - 1 - 1) := by
      unfold lastw
      repeat' split
      all_goals omega
    rcases hlw with h | ⟨h1, h⟩ | ⟨h1, h2, h⟩
    · rw [show stipendlaw03_DateWorks.l0 (K + 1 + 1 + 1) b 0 (num y m d) (num y m d) y m d y' m' d' = stipendlaw03_DateWorks.l0 (K + 1 + 1 + 1) b 0 (num y m d) (lastw (num y m d)) y m d y' m' d' by rw [h]]
      exact fin _ (by omega)
    · rw [step _ _ (by omega) (by omega) h1, ← h]
      exact fin _ (by omega)
    · rw [step _ _ (by omega) (by omega) h1, step _ _ (by omega) (by omega) h2, ← h]
      exact fin _ (by omega)
  · rw [back_no ho (by omega), workdays_no (fun h => ho h.1) (by omega), workday_ok (by omega)]
    simp [ho]

end Go.Proofs.Ythfkfageehkhcaa.Pure
