/- The law FracRounds of the package stipendlaw02 holds for every input: a quotient, rounded, is a whole number less than one away from it, on the side that its way tells; what may not be is refused. No condition. -/
import Derived.Test.YtfiomckebicphaaX5
import Derived.Test.YtfiomckebicphaaMFrac
namespace Go.Proofs.Ytfiomckebicphaa.Pure
open Go.RowKit Go.Proofs.Ytfiomckebicphaa.X Go.Proofs.YtfiomckebicphaaW.PrintWords Go.Proofs.YtfiomckebicphaaW.PrintLast

theorem great_some (x : Int) : stipendlaw02_great.f x = some (decide (x > 2305843009213693952 ∨ x < -2305843009213693952)) := by
  unfold stipendlaw02_great.f
  by_cases h : x > 2305843009213693952
  · simp [h]
  · simp [h]
theorem j2_fin {n d m Q x : Int} (k : Nat) (hd : 0 < d) (hd2 : d ≤ 2305843009213693952) (hx : -d < x ∧ x < d) (hm : 1 ≤ m ∧ m ≤ 6) (h1 : m = 1 → 0 ≤ x) (h2 : m = 2 → x ≤ 0)
    (h3 : m = 3 → x = 0 ∨ (0 < x ∧ 0 < n) ∨ (x < 0 ∧ n < 0)) (h4 : m = 4 → (-d < 2 * x ∧ 2 * x < d) ∨ (2 * x = d ∧ n < 0) ∨ (2 * x = -d ∧ 0 < n))
    (h5 : m = 5 → (-d < 2 * x ∧ 2 * x < d) ∨ ((2 * x = d ∨ 2 * x = -d) ∧ Q % 2 = 0)) (h6 : m = 6 → (-d < 2 * x ∧ 2 * x < d) ∨ (2 * x = d ∧ 0 < n) ∨ (2 * x = -d ∧ n < 0)) :
    stipendlaw02_FracRounds.j2 (k + 1) n d m Q x false = some true := by
  have e3 : wrap64 (-d) = -d := w64 (by omega)
  have e4 : wrap64 (2 * x) = 2 * x := w64 (by omega)
  simp only [stipendlaw02_FracRounds.j2, Bool.false_eq_true, if_false, e4, e3]
  have hmod : (Q % 2 = 0) → ((Int.tmod Q 2) == 0) = true := by
    intro h
    rw [beq_iff_eq]
    exact Int.tmod_eq_zero_of_dvd (Int.dvd_of_emod_eq_zero h)
  obtain rfl | rfl | rfl | rfl | rfl | rfl : m = 1 ∨ m = 2 ∨ m = 3 ∨ m = 4 ∨ m = 5 ∨ m = 6 := by omega
  · have := h1 rfl
    simp [this]
  · have := h2 rfl
    simp [this]
  · simp only [show ¬ ((3 : Int) = 1) by decide, show ¬ ((3 : Int) = 2) by decide, if_false, if_true]
    rcases h3 rfl with h | ⟨h, h'⟩ | ⟨h, h'⟩
    · simp [h]
    · rw [if_neg (by omega), show decide (x > 0) = true by simpa using h, show decide (n > 0) = true by simpa using h']; rfl
    · rw [if_neg (by omega), show decide (x > 0) = false by simp; omega, show decide (n > 0) = false by simp; omega]; rfl
  · simp only [show ¬ ((4 : Int) = 1) by decide, show ¬ ((4 : Int) = 2) by decide, show ¬ ((4 : Int) = 3) by decide, if_false, if_true]
    rcases h4 rfl with ⟨h, h'⟩ | ⟨h, h'⟩ | ⟨h, h'⟩
    · rw [if_pos h', if_pos h]
    · rw [if_neg (by omega), if_pos h, if_pos h']
    · rw [if_pos (by omega), if_neg (by omega), if_neg (by omega), if_pos h, show decide (n > 0) = true by simpa using h']
  · simp only [show ¬ ((5 : Int) = 1) by decide, show ¬ ((5 : Int) = 2) by decide, show ¬ ((5 : Int) = 3) by decide, show ¬ ((5 : Int) = 4) by decide, show ¬ ((5 : Int) = 6) by decide, if_false]
    rcases h5 rfl with ⟨h, h'⟩ | ⟨h | h, h'⟩
    · rw [if_pos h', if_pos h]
    · rw [if_neg (by omega), if_pos h, hmod h']
    · rw [if_pos (by omega), if_neg (by omega), if_neg (by omega), if_pos h, hmod h']
  · simp only [show ¬ ((6 : Int) = 1) by decide, show ¬ ((6 : Int) = 2) by decide, show ¬ ((6 : Int) = 3) by decide, show ¬ ((6 : Int) = 4) by decide, if_false, if_true]
    rcases h6 rfl with ⟨h, h'⟩ | ⟨h, h'⟩ | ⟨h, h'⟩
    · rw [if_pos h', if_pos h]
    · rw [if_neg (by omega), if_pos h, if_pos h']
    · rw [if_pos (by omega), if_neg (by omega), if_neg (by omega), if_pos h, show decide (n < 0) = true by simpa using h']
set_option maxHeartbeats 2000000 in
theorem FracRounds : stipendlaw02_FracRounds.Pure := by
  intro n d m hn hd hm
  have hn := wf64 hn
  have hd := wf64 hd
  have hm := wf64 hm
  refine ⟨0 + 70, ?_⟩
  unfold stipendlaw02_FracRounds.f
  rw [parts_ok 0]
  simp only [Option.bind_some, if_true]
  by_cases hbad : d ≤ 0 ∨ m < 1 ∨ 6 < m
  · rw [round_bad hbad 69]
    simp only [Option.bind_some]
    by_cases h1 : d ≤ 0
    · rw [if_pos h1]; simp [stipendlaw02_FracRounds.j0]
    · rw [if_neg h1]
      by_cases h2 : m < 1
      · rw [if_pos h2]; simp [stipendlaw02_FracRounds.j0]
      · rw [if_neg h2, show decide (m > 6) = true by simp; omega]; simp [stipendlaw02_FracRounds.j0]
  · obtain ⟨u, hu, h01, hz, hp⟩ := round_ok (n := n) (d := d) (m := m) hn (by omega) (by omega) (by omega) 69
    rw [hu]
    simp only [Option.bind_some]
    rw [if_neg (by omega), if_neg (by omega), show decide (m > 6) = false by simp; omega]
    simp only [stipendlaw02_FracRounds.j0, Bool.false_eq_true, if_false, if_true, great_some, Option.bind_some]
    have h1 := Int.emod_nonneg n (show d ≠ 0 by omega)
    have h2 := Int.emod_lt_of_pos n (show 0 < d by omega)
    have h3 := Int.mul_ediv_add_emod n d
    have htm : (Int.tmod n d != 0) = decide (n % d ≠ 0) := by
      rw [Bool.eq_iff_iff]
      simp only [bne_iff_ne, ne_eq, decide_eq_true_eq]
      constructor
      · intro h h'; exact h (Int.tmod_eq_zero_of_dvd (Int.dvd_of_emod_eq_zero h'))
      · intro h h'; exact h (Int.emod_eq_zero_of_dvd (Int.dvd_of_tmod_eq_zero h'))
    by_cases hg : n > 2305843009213693952 ∨ n < -2305843009213693952
    · simp [hg, stipendlaw02_FracRounds.j1]
    · by_cases hg2 : d > 2305843009213693952 ∨ d < -2305843009213693952
      · simp [hg, hg2, stipendlaw02_FracRounds.j1]
      · simp only [hg, hg2, decide_false, Bool.false_eq_true, if_false, stipendlaw02_FracRounds.j1]
        have hqd : (n / d + u) * d = d * (n / d) + u * d := by rw [Int.add_mul, Int.mul_comm (n / d) d]
        have hp0 : d * (n / d) = n - n % d := by omega
        have hur : u * d = 0 ∨ u * d = d := by rcases h01 with rfl | rfl <;> simp
        have e1 : wrap64 ((n / d + u) * d) = (n / d + u) * d := w64 (by omega)
        have e2 : wrap64 (n - (n / d + u) * d) = n % d - u * d := by rw [w64 (by omega)]; omega
        have e3 : wrap64 (-d) = -d := w64 (by omega)
        rw [e1, e2, e3, htm]
        have hdq : d * (n / d) < 0 ↔ n / d < 0 := by
          constructor
          · intro h
            rcases Int.lt_or_le (n / d) 0 with h' | h'
            · exact h'
            · have := Int.mul_nonneg (show 0 ≤ d by omega) h'; omega
          · intro h
            exact Int.mul_neg_of_pos_of_neg (by omega) h
        have hdq2 : n / d < 0 → d * (n / d) ≤ -d := by
          intro h
          have := Int.mul_le_mul_of_nonneg_left (show n / d ≤ -1 by omega) (show 0 ≤ d by omega)
          omega
        have hd3 : d ≤ 2305843009213693952 := by omega
        generalize n / d = q at *
        generalize n % d = r at *
        generalize d * q = p at *
        obtain ⟨x, hx⟩ : ∃ x, x = r - u * d := ⟨_, rfl⟩
        have hx2 : -d < x ∧ x < d := by
          by_cases hr : r = 0
          · rw [hz hr] at hx; omega
          · omega
        rw [← hx, if_neg (by omega), if_neg (by omega)]
        have hx0 : x = 0 ↔ r = 0 := by
          by_cases hr : r = 0
          · rw [hz hr] at hx; omega
          · omega
        have e4 : wrap64 (2 * x) = 2 * x := w64 (by omega)
        have key : ∀ b, b = false → stipendlaw02_FracRounds.j2 68 n d m (q + u) x b = some true := by
          rintro _ rfl
          by_cases hr : r = 0
          · have := hx0.2 hr
            exact j2_fin 67 (by omega) (by omega) hx2 (by omega) (by omega) (by omega) (by omega) (by omega) (by omega) (by omega)
          · obtain ⟨a1, a2, a3, a4, a5, a6⟩ := hp (by omega)
            clear hp hz e1 e2 e4 htm hg hg2 hqd
            rcases h01 with rfl | rfl
            · have hxr : x = r := by omega
              refine j2_fin 67 (by omega) (by omega) hx2 (by omega) (by omega) (fun h => ?_) (fun h => ?_) (fun h => ?_) (fun h => ?_) (fun h => ?_)
              · have := a2 h; omega
              · have := a3 h; omega
              · have := a4 h; omega
              · have := a5 h; omega
              · have := a6 h; omega
            · have hxr : x = r - d := by omega
              refine j2_fin 67 (by omega) (by omega) hx2 (by omega) (fun h => ?_) (by omega) (fun h => ?_) (fun h => ?_) (fun h => ?_) (fun h => ?_)
              · have := a1 h; omega
              · have := a3 h; omega
              · have := a4 h; omega
              · have := a5 h; omega
              · have := a6 h; omega
        by_cases hr : r = 0
        · rw [if_pos (hx0.2 hr), if_neg (by omega)]
          exact key _ (by simp [hr])
        · rw [if_neg (fun h => hr (hx0.1 h))]
          exact key _ rfl

end Go.Proofs.Ytfiomckebicphaa.Pure
