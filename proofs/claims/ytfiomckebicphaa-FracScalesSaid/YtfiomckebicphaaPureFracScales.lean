/- The law FracScales of the package stipendlaw02 holds for every input: an amount times a fraction is the greatest whole number that isn't above it; what may not be is refused. No condition. -/
import Derived.Test.YtfiomckebicphaaX7
import Derived.Test.YtfiomckebicphaaMRight
namespace Go.Proofs.Ytfiomckebicphaa.Pure
open Go.RowKit Go.Proofs.Ytfiomckebicphaa.X Go.Proofs.YtfiomckebicphaaW.PrintWords Go.Proofs.YtfiomckebicphaaW.PrintLast

theorem scale_ok {x n d : Int} (hx : okM x) (hn : 0 ≤ n ∧ n ≤ 1048576) (hd : 1 ≤ d ∧ d ≤ 1048576) (k : Nat) :
    frac_Scale.f (k + 62) x n d = some (if okM (x * n / d) then (x * n / d, 0) else (0, 10)) := by
  have hb : -104857600000000000 ≤ x * n ∧ x * n ≤ 104857600000000000 := by
    unfold okM at hx
    have h1 : x * n ≤ 100000000000 * n := Int.mul_le_mul_of_nonneg_right hx.2 hn.1
    have h2 : -100000000000 * n ≤ x * n := Int.mul_le_mul_of_nonneg_right hx.1 hn.1
    omega
  unfold frac_Scale.f
  rw [show k + 62 = k + 1 + 61 from rfl, right1]
  simp only [hx, decide_true, Option.bind_some, if_true]
  rw [if_neg (by omega), if_neg (by omega), if_neg (by omega), show decide (d > 1048576) = false by simp; omega, show k + 1 + 61 = (k + 61) + 1 from rfl]
  generalize hK : k + 61 = K
  simp only [frac_Scale.j0, Bool.false_eq_true, if_false]
  rw [w64 (by omega), floor_ok (by omega) (by omega) (by omega)]
  simp only [Option.bind_some]
  rw [← hK, right1]
  simp only [Option.bind_some, decide_eq_true_eq]
  split <;> rfl
theorem scale_over {x n d : Int} (hx : ¬ okM x) (k : Nat) : frac_Scale.f (k + 62) x n d = some (0, 10) := by
  unfold frac_Scale.f
  rw [show k + 62 = k + 1 + 61 from rfl, right1]
  simp [hx]
theorem scale_bad {x n d : Int} (hx : okM x) (h : n < 0 ∨ 1048576 < n ∨ d < 1 ∨ 1048576 < d) (k : Nat) : frac_Scale.f (k + 62) x n d = some (0, 1) := by
  unfold frac_Scale.f
  rw [show k + 62 = k + 1 + 61 from rfl, right1]
  simp only [hx, decide_true, Option.bind_some, if_true]
  by_cases h1 : n < 0
  · rw [if_pos h1]; simp [frac_Scale.j0]
  · rw [if_neg h1]
    by_cases h2 : d ≤ 0
    · rw [if_pos h2]; simp [frac_Scale.j0]
    · rw [if_neg h2]
      by_cases h3 : n > 1048576
      · rw [if_pos h3]; simp [frac_Scale.j0]
      · rw [if_neg h3, show decide (d > 1048576) = true by simp; omega]; simp [frac_Scale.j0]
theorem scales_j1 (x n d q e : Int) (k : Nat) (b : Bool) (h : b = true) (hq : q = 0) (he : e = 1) : stipendlaw02_FracScales.j1 (k + 1) x n d q e b = some true := by
  subst h hq he
  simp [stipendlaw02_FracScales.j1]
theorem FracScales : stipendlaw02_FracScales.Pure := by
  intro x n d hx hn hd
  have hx := wf64 hx
  have hn := wf64 hn
  have hd := wf64 hd
  refine ⟨8 + 62, ?_⟩
  unfold stipendlaw02_FracScales.f
  rw [show 8 + 62 = 0 + 70 from rfl, parts_ok 0, show 0 + 70 = 8 + 62 from rfl]
  simp only [Option.bind_some, if_true]
  by_cases hox : okM x
  · have hox' := hox
    unfold okM at hox'
    by_cases hbad : n < 0 ∨ 1048576 < n ∨ d < 1 ∨ 1048576 < d
    · rw [scale_bad hox hbad 8]
      simp only [Option.bind_some]
      rw [if_neg (by omega), show decide (x < -100000000000) = false by simp; omega, show 8 + 62 = 68 + 1 + 1 from rfl]
      generalize 68 = K
      simp only [stipendlaw02_FracScales.j0, Bool.false_eq_true, if_false]
      by_cases h1 : n < 0
      · rw [if_pos h1]; exact scales_j1 _ _ _ _ _ _ _ rfl rfl rfl
      · rw [if_neg h1]
        by_cases h2 : n > 1048576
        · rw [if_pos h2]; exact scales_j1 _ _ _ _ _ _ _ rfl rfl rfl
        · rw [if_neg h2]
          by_cases h3 : d < 1
          · rw [if_pos h3]; exact scales_j1 _ _ _ _ _ _ _ rfl rfl rfl
          · rw [if_neg h3]; exact scales_j1 _ _ _ _ _ _ _ (by simp; omega) rfl rfl
    · have hb : -104857600000000000 ≤ x * n ∧ x * n ≤ 104857600000000000 := by
        have h1 : x * n ≤ 100000000000 * n := Int.mul_le_mul_of_nonneg_right hox'.2 (by omega)
        have h2 : -100000000000 * n ≤ x * n := Int.mul_le_mul_of_nonneg_right hox'.1 (by omega)
        omega
      rw [scale_ok hox (by omega) (by omega) 8]
      simp only [Option.bind_some]
      rw [if_neg (by omega), show decide (x < -100000000000) = false by simp; omega, show 8 + 62 = 67 + 1 + 1 + 1 from rfl]
      have hr := round_down (n := x * n) (d := d) (by omega) (by omega) (by omega) 67
      generalize 67 = K at hr ⊢
      simp only [stipendlaw02_FracScales.j0, Bool.false_eq_true, if_false]
      rw [if_neg (by omega), if_neg (by omega), if_neg (by omega), show decide (d > 1048576) = false by simp; omega]
      simp only [stipendlaw02_FracScales.j1, Bool.false_eq_true, if_false]
      rw [w64 (x := x * n) (by omega), hr]
      simp only [Option.bind_some]
      by_cases hoq : okM (x * n / d)
      · have hoq' := hoq
        unfold okM at hoq'
        have h1 := Int.emod_nonneg (x * n) (show d ≠ 0 by omega)
        have h2 := Int.emod_lt_of_pos (x * n) (show 0 < d by omega)
        have h3 := Int.mul_ediv_add_emod (x * n) d
        simp only [hoq, if_true]
        rw [if_neg (by omega), if_neg (by omega), Int.mul_comm (x * n / d) d, w64 (by omega), if_pos (by omega), w64 (by omega)]
        simp
        omega
      · have hoq' := hoq
        unfold okM at hoq'
        simp only [hoq, if_false, if_true]
        by_cases h1 : x * n / d > 100000000000
        · rw [if_pos h1]; rfl
        · rw [if_neg h1, if_pos (by omega)]; rfl
  · have hox' := hox
    unfold okM at hox'
    rw [scale_over hox 8]
    simp only [Option.bind_some]
    by_cases h1 : x > 100000000000
    · rw [if_pos h1]; simp [stipendlaw02_FracScales.j0]
    · rw [if_neg h1, show decide (x < -100000000000) = true by simp; omega]; simp [stipendlaw02_FracScales.j0]

end Go.Proofs.Ytfiomckebicphaa.Pure
