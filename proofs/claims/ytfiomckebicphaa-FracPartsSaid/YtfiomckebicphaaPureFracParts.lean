/- The law FracParts of the package stipendlaw02 holds for every input: an exact part of an amount is that many parts of it; rounded it is less than a least coin away; and with what the rest of the rate tells it is the whole. No condition. -/
import Derived.Test.YtfiomckebicphaaX9
import Derived.Test.YtfiomckebicphaaMAdd
namespace Go.Proofs.Ytfiomckebicphaa.Pure
open Go.RowKit Go.Proofs.Ytfiomckebicphaa.X Go.Proofs.YtfiomckebicphaaW.PrintWords Go.Proofs.YtfiomckebicphaaW.PrintLast

theorem of_ok {x : Int} (hx : okM x) (k : Nat) : frac_Of.f (k + 61) x = some (x * 10000, 0) := by
  have hx' := hx
  unfold okM at hx'
  unfold frac_Of.f
  rw [right1]
  simp only [hx, decide_true, Option.bind_some, if_true]
  rw [w64 (by omega)]
theorem parts_j2 {m p c e : Int} (k : Nat) (h : (1 ≤ m ∧ m ≤ 6 ∧ e = 0 ∧ -10000 < p - 10000 * c ∧ p - 10000 * c < 10000 ∧ -9223372036854775808 ≤ 10000 * c ∧ 10000 * c ≤ 9223372036854775807) ∨ ((m < 1 ∨ 6 < m) ∧ e = 1 ∧ c = 0)) : stipendlaw02_FracParts.j2 (k + 1) m p c e false = some true := by
  simp only [stipendlaw02_FracParts.j2, Bool.false_eq_true, if_false]
  rcases h with ⟨h1, h2, rfl, h3, h4, h5⟩ | ⟨h1, rfl, rfl⟩
  · rw [if_neg (by omega), if_neg (by omega), if_pos rfl, w64 (x := 10000 * c) h5, w64 (by omega), if_pos (by omega)]
    simp
    omega
  · by_cases h2 : m < 1
    · rw [if_pos h2]; simp
    · rw [if_neg h2, if_pos (by omega)]; simp
theorem FracParts : stipendlaw02_FracParts.Pure := by
  intro x r m hx hr hm
  have hx := wf64 hx
  have hr := wf64 hr
  have hm := wf64 hm
  refine ⟨9 + 61, ?_⟩
  unfold stipendlaw02_FracParts.f
  rw [show 9 + 61 = 0 + 70 from rfl, parts_ok 0, show 0 + 70 = 9 + 61 from rfl]
  simp only [Option.bind_some, if_true]
  rw [part_ok, take_any]
  simp only [Option.bind_some]
  by_cases hox : okM x
  · have hox' := hox
    unfold okM at hox'
    by_cases hor : 0 ≤ r ∧ r ≤ 10000
    · have hb := part_bounds hox hor
      have hb2 := part_bounds (r := 10000 - r) hox (by omega)
      simp only [hox, hor, and_self, if_true]
      obtain ⟨c, e, hce, hfin⟩ : ∃ c e, frac_Round.f (9 + 61) (x * r) 10000 m = some (c, e) ∧ ∀ k, stipendlaw02_FracParts.j2 (k + 1) m (x * r) c e false = some true := by
        by_cases hbad : m < 1 ∨ 6 < m
        · exact ⟨0, 1, round_bad (Or.inr hbad) 69, fun k => parts_j2 k (Or.inr ⟨hbad, rfl, rfl⟩)⟩
        · obtain ⟨u, hu, h01, hz, _⟩ := round_ok (n := x * r) (d := 10000) (m := m) (by omega) (by omega) (by omega) (by omega) 69
          refine ⟨_, _, hu, fun k => parts_j2 k (Or.inl ⟨by omega, by omega, rfl, ?_⟩)⟩
          generalize x * r = p at *
          omega
      rw [hce]
      simp only [Option.bind_some]
      rw [if_pos (by omega), show decide (x ≤ 100000000000) = true by simp; omega, show 9 + 61 = 67 + 1 + 1 + 1 from rfl]
      have hP := part_ok (x := x) (r := 10000 - r) 7
      have hO := of_ok hox 7
      have hA := add_ok [x * r, x * (10000 - r)] (by simp) 7
      simp only [hox, show 0 ≤ 10000 - r ∧ 10000 - r ≤ 10000 by omega, and_self, if_true] at hP
      have hsum : x * r + x * (10000 - r) = x * 10000 := by rw [Int.mul_sub]; omega
      have hS : addS [x * r, x * (10000 - r)] 0 = (x * 10000, 0) := by
        simp only [addS]
        rw [Int.zero_add, if_pos (by unfold okE; omega), if_pos (by unfold okE; omega), if_pos (by unfold okE; omega), hsum, if_pos (by unfold okE; omega)]
      rw [hS] at hA
      rw [show (7 : Nat) + 61 = 67 + 1 from rfl] at hP hO hA
      generalize 67 = K at *
      simp only [stipendlaw02_FracParts.j0, if_true]
      have hw : wrap64 (x * r) = x * r := w64 (by omega)
      have hw2 : wrap64 (10000 - r) = 10000 - r := w64 (by omega)
      rw [if_neg (by omega), if_neg (by omega), hw, show (x * r != x * r) = false by simp]
      simp only [stipendlaw02_FracParts.j1, Bool.false_eq_true, if_false]
      rw [hw2, hP, hO]
      simp only [Option.bind_some, hA, Int.add_zero]
      rw [show wrap64 (wrap64 0) = 0 by rw [show wrap64 0 = 0 from w64 (by omega)]; exact w64 (by omega), fright]
      simp only [if_true, Option.bind_some]
      rw [show decide (-1000000000000000 ≤ x * r ∧ x * r ≤ 1000000000000000) = true by simp; omega]
      exact hfin K
    · simp only [hox, hor, if_true, if_false, Option.bind_some]
      rw [if_pos (by omega), show decide (x ≤ 100000000000) = true by simp; omega]
      simp only [stipendlaw02_FracParts.j0, if_true]
      by_cases h1 : r < 0
      · rw [if_pos h1]; rfl
      · rw [if_neg h1, if_pos (by omega)]; rfl
  · have hox' := hox
    unfold okM at hox'
    simp only [hox, if_false, Option.bind_some]
    by_cases h1 : x ≥ -100000000000
    · rw [if_pos h1, show decide (x ≤ 100000000000) = false by simp; omega]
      simp [stipendlaw02_FracParts.j0]
    · rw [if_neg h1]
      simp [stipendlaw02_FracParts.j0]

end Go.Proofs.Ytfiomckebicphaa.Pure
