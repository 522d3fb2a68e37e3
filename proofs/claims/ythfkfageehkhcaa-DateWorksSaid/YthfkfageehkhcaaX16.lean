-- laid by the session's own program (xprint.py) out of Lean's print of the program; Lean checks it
import Derived.Test.YthfkfageehkhcaaX0
namespace Go.Proofs.Ythfkfageehkhcaa.X
open Go.RowKit Go.Proofs.YthfkfageehkhcaaW.PrintWords Go.Proofs.YthfkfageehkhcaaW.PrintLast Go.Proofs.YthfkfageehkhcaaW.PrintMore
attribute [local go_sem] max2_int min2_int max_two min_two max_three min_three max_four min_four   -- for this text's walks alone
set_option linter.unusedVariables false
set_option linter.unusedSimpArgs false

/-! ### stipendref03_Long: function 28 -/
def stipendref03_Long.f (a0 : Int) : Option (Int) := if (Int.tmod a0 400) = 0 then (some 366) else (if (Int.tmod a0 4) = 0 then (if (Int.tmod a0 100) = 0 then (some 365) else (some 366)) else (some 365))
set_option maxHeartbeats 8000000 in
set_option maxRecDepth 100000 in
theorem stipendref03_Long.calls (a0 : Int) (r : Int) (w : World) (h : stipendref03_Long.f a0 = some r) :
    Calls Try.prog 28 #[.int .i64 a0] w fun e w' => e = .returned (.int .i64 r) ∧ Drawn0 w w' := by
  have H : (if (Int.tmod a0 400) = 0 then (some 366) else (if (Int.tmod a0 4) = 0 then (if (Int.tmod a0 100) = 0 then (some 365) else (some 366)) else (some 365))) = some r := h
  clear h
  by_cases c2 : (Int.tmod a0 400) = 0
  · rw [if_pos c2] at H
    have c2b0 : ((Int.tmod a0 400) == 0) = true := beq_iff_eq.mpr c2
    have c2b1 : ((Int.tmod a0 400) != 0) = false := bne_eq_false_iff_eq.mpr c2
    clear c2
    obtain rfl := Option.some.inj H
    go_enter Try.func28, Try.ntmps28
    go_wp2
    go_ret
    exact ⟨by first | rfl | (simp; done) | (simp [*]; done), by repeat (first | exact Drawn0.refl _ | apply Drawn0.step)⟩
  · rw [if_neg c2] at H
    have c2b0 : ((Int.tmod a0 400) == 0) = false := beq_eq_false_iff_ne.mpr c2
    have c2b1 : ((Int.tmod a0 400) != 0) = true := bne_iff_ne.mpr c2
    by_cases c3 : (Int.tmod a0 4) = 0
    · rw [if_pos c3] at H
      have c3b0 : ((Int.tmod a0 4) == 0) = true := beq_iff_eq.mpr c3
      have c3b1 : ((Int.tmod a0 4) != 0) = false := bne_eq_false_iff_eq.mpr c3
      clear c3
      by_cases c4 : (Int.tmod a0 100) = 0
      · rw [if_pos c4] at H
        have c4b0 : ((Int.tmod a0 100) == 0) = true := beq_iff_eq.mpr c4
        have c4b1 : ((Int.tmod a0 100) != 0) = false := bne_eq_false_iff_eq.mpr c4
        clear c4
        obtain rfl := Option.some.inj H
        go_enter Try.func28, Try.ntmps28
        go_wp2
        go_ret
        exact ⟨by first | rfl | (simp; done) | (simp [*]; done), by repeat (first | exact Drawn0.refl _ | apply Drawn0.step)⟩
      · rw [if_neg c4] at H
        have c4b0 : ((Int.tmod a0 100) == 0) = false := beq_eq_false_iff_ne.mpr c4
        have c4b1 : ((Int.tmod a0 100) != 0) = true := bne_iff_ne.mpr c4
        obtain rfl := Option.some.inj H
        go_enter Try.func28, Try.ntmps28
        go_wp2
        go_ret
        exact ⟨by first | rfl | (simp; done) | (simp [*]; done), by repeat (first | exact Drawn0.refl _ | apply Drawn0.step)⟩
    · rw [if_neg c3] at H
      have c3b0 : ((Int.tmod a0 4) == 0) = false := beq_eq_false_iff_ne.mpr c3
      have c3b1 : ((Int.tmod a0 4) != 0) = true := bne_iff_ne.mpr c3
      obtain rfl := Option.some.inj H
      go_enter Try.func28, Try.ntmps28
      go_wp2
      go_ret
      exact ⟨by first | rfl | (simp; done) | (simp [*]; done), by repeat (first | exact Drawn0.refl _ | apply Drawn0.step)⟩

end Go.Proofs.Ythfkfageehkhcaa.X
