-- laid by the session's own program (xprint.py) out of Lean's print of the program; Lean checks it
import Derived.Test.YtfiomckebicphaaB0
namespace Go.Proofs.Ytfiomckebicphaa.B
open Go.RowKit Go.Proofs.YtfiomckebicphaaW.PrintWords Go.Proofs.YtfiomckebicphaaW.PrintLast Go.Proofs.YtfiomckebicphaaW.PrintMore
attribute [local go_sem] max2_int min2_int max_two min_two max_three min_three max_four min_four   -- for this text's walks alone
set_option linter.unusedVariables false
set_option linter.unusedSimpArgs false

/-! ### frac_nearer: function 55 -/
def frac_nearer.f (a0 : Int) (a1 : Int) (a2 : Int) (a3 : Int) : Option (Bool) := if a3 = 2 then (some (decide (a1 > 0))) else (if a3 = 3 then (if a1 > 0 then (some (decide (a0 < 0))) else (some false)) else (if a3 = 1 then (some false) else (if a1 = (wrap64 (a2 - a1)) then (if a3 = 4 then (some (decide (a0 ≥ 0))) else (if a3 = 6 then (some (decide (a0 < 0))) else (some ((Int.tmod a0 2) != 0)))) else (some (decide (a1 > (wrap64 (a2 - a1))))))))
set_option maxHeartbeats 8000000 in
set_option maxRecDepth 100000 in
theorem frac_nearer.calls (a0 : Int) (a1 : Int) (a2 : Int) (a3 : Int) (r : Bool) (w : World) (h : frac_nearer.f a0 a1 a2 a3 = some r) :
    Calls Try.prog 55 #[.int .i64 a0, .int .i64 a1, .int .i64 a2, .int .i64 a3] w fun e w' => e = .returned (.bool r) ∧ Drawn0 w w' := by
  have H : (if a3 = 2 then (some (decide (a1 > 0))) else (if a3 = 3 then (if a1 > 0 then (some (decide (a0 < 0))) else (some false)) else (if a3 = 1 then (some false) else (if a1 = (wrap64 (a2 - a1)) then (if a3 = 4 then (some (decide (a0 ≥ 0))) else (if a3 = 6 then (some (decide (a0 < 0))) else (some ((Int.tmod a0 2) != 0)))) else (some (decide (a1 > (wrap64 (a2 - a1))))))))) = some r := h
  clear h
  by_cases c5 : a3 = 2
  · rw [if_pos c5] at H
    have c5b0 : (a3 == 2) = true := beq_iff_eq.mpr c5
    have c5b1 : (a3 != 2) = false := bne_eq_false_iff_eq.mpr c5
    clear c5
    obtain rfl := Option.some.inj H
    go_enter Try.func55, Try.ntmps55
    go_wp2
    go_ret
    exact ⟨by first | rfl | (simp; done) | (simp [*]; done), by repeat (first | exact Drawn0.refl _ | apply Drawn0.step)⟩
  · rw [if_neg c5] at H
    have c5b0 : (a3 == 2) = false := beq_eq_false_iff_ne.mpr c5
    have c5b1 : (a3 != 2) = true := bne_iff_ne.mpr c5
    by_cases c6 : a3 = 3
    · rw [if_pos c6] at H
      have c6b0 : (a3 == 3) = true := beq_iff_eq.mpr c6
      have c6b1 : (a3 != 3) = false := bne_eq_false_iff_eq.mpr c6
      clear c6
      by_cases c7 : a1 > 0
      · rw [if_pos c7] at H
        have c7b0 : decide (0 < a1) = true := decide_eq_true c7
        clear c7
        obtain rfl := Option.some.inj H
        go_enter Try.func55, Try.ntmps55
        go_wp2
        go_ret
        exact ⟨by first | rfl | (simp; done) | (simp [*]; done), by repeat (first | exact Drawn0.refl _ | apply Drawn0.step)⟩
      · rw [if_neg c7] at H
        have c7b0 : decide (0 < a1) = false := decide_eq_false c7
        clear c7
        obtain rfl := Option.some.inj H
        go_enter Try.func55, Try.ntmps55
        go_wp2
        go_ret
        exact ⟨by first | rfl | (simp; done) | (simp [*]; done), by repeat (first | exact Drawn0.refl _ | apply Drawn0.step)⟩
    · rw [if_neg c6] at H
      have c6b0 : (a3 == 3) = false := beq_eq_false_iff_ne.mpr c6
      have c6b1 : (a3 != 3) = true := bne_iff_ne.mpr c6
      by_cases c8 : a3 = 1
      · rw [if_pos c8] at H
        have c8b0 : (a3 == 1) = true := beq_iff_eq.mpr c8
        have c8b1 : (a3 != 1) = false := bne_eq_false_iff_eq.mpr c8
        clear c8
        obtain rfl := Option.some.inj H
        go_enter Try.func55, Try.ntmps55
        go_wp2
        go_ret
        exact ⟨by first | rfl | (simp; done) | (simp [*]; done), by repeat (first | exact Drawn0.refl _ | apply Drawn0.step)⟩
      · rw [if_neg c8] at H
        have c8b0 : (a3 == 1) = false := beq_eq_false_iff_ne.mpr c8
        have c8b1 : (a3 != 1) = true := bne_iff_ne.mpr c8
        by_cases c9 : a1 = (wrap64 (a2 - a1))
        · rw [if_pos c9] at H
          have c9b0 : (a1 == (wrap64 (a2 - a1))) = true := beq_iff_eq.mpr c9
          have c9b1 : (a1 != (wrap64 (a2 - a1))) = false := bne_eq_false_iff_eq.mpr c9
          clear c9
          by_cases c10 : a3 = 4
          · rw [if_pos c10] at H
            have c10b0 : (a3 == 4) = true := beq_iff_eq.mpr c10
            have c10b1 : (a3 != 4) = false := bne_eq_false_iff_eq.mpr c10
            clear c10
            obtain rfl := Option.some.inj H
            go_enter Try.func55, Try.ntmps55
            go_wp2
            go_ret
            exact ⟨by first | rfl | (simp; done) | (simp [*]; done), by repeat (first | exact Drawn0.refl _ | apply Drawn0.step)⟩
          · rw [if_neg c10] at H
            have c10b0 : (a3 == 4) = false := beq_eq_false_iff_ne.mpr c10
            have c10b1 : (a3 != 4) = true := bne_iff_ne.mpr c10
            by_cases c11 : a3 = 6
            · rw [if_pos c11] at H
              have c11b0 : (a3 == 6) = true := beq_iff_eq.mpr c11
              have c11b1 : (a3 != 6) = false := bne_eq_false_iff_eq.mpr c11
              clear c11
              obtain rfl := Option.some.inj H
              go_enter Try.func55, Try.ntmps55
              go_wp2
              go_ret
              exact ⟨by first | rfl | (simp; done) | (simp [*]; done), by repeat (first | exact Drawn0.refl _ | apply Drawn0.step)⟩
            · rw [if_neg c11] at H
              have c11b0 : (a3 == 6) = false := beq_eq_false_iff_ne.mpr c11
              have c11b1 : (a3 != 6) = true := bne_iff_ne.mpr c11
              obtain rfl := Option.some.inj H
              go_enter Try.func55, Try.ntmps55
              go_wp2
              go_ret
              exact ⟨by first | rfl | (simp; done) | (simp [*]; done), by repeat (first | exact Drawn0.refl _ | apply Drawn0.step)⟩
        · rw [if_neg c9] at H
          have c9b0 : (a1 == (wrap64 (a2 - a1))) = false := beq_eq_false_iff_ne.mpr c9
          have c9b1 : (a1 != (wrap64 (a2 - a1))) = true := bne_iff_ne.mpr c9
          obtain rfl := Option.some.inj H
          go_enter Try.func55, Try.ntmps55
          go_wp2
          go_ret
          exact ⟨by first | rfl | (simp; done) | (simp [*]; done), by repeat (first | exact Drawn0.refl _ | apply Drawn0.step)⟩

end Go.Proofs.Ytfiomckebicphaa.B
