-- laid by the session's own program (xprint.py) out of Lean's print of the program; Lean checks it
import Derived.Test.YtfiomckebicphaaB0
namespace Go.Proofs.Ytfiomckebicphaa.B
open Go.RowKit Go.Proofs.YtfiomckebicphaaW.PrintWords Go.Proofs.YtfiomckebicphaaW.PrintLast Go.Proofs.YtfiomckebicphaaW.PrintMore
attribute [local go_sem] max2_int min2_int max_two min_two max_three min_three max_four min_four   -- for this text's walks alone
set_option linter.unusedVariables false
set_option linter.unusedSimpArgs false

/-! ### pair_whole: function 58 -/
def pair_whole.f (a0 : Int) : Option (Bool) := if Flt.fok a0 = true then (some true) else (none)
set_option maxHeartbeats 8000000 in
set_option maxRecDepth 100000 in
theorem pair_whole.calls (a0 : Int) (r : Bool) (w : World) (h : pair_whole.f a0 = some r) :
    Calls Try.prog 58 #[.float .f64 (Flt.FI a0)] w fun e w' => e = .returned (.bool r) ∧ Drawn0 w w' := by
  have hcx_ := Flt.run_complex (P := Try.prog)
  have hre_ := Flt.run_real (P := Try.prog)
  have him_ := Flt.run_imag (P := Try.prog)
  have H : (if Flt.fok a0 = true then (some true) else (none)) = some r := h
  clear h
  by_cases c2 : Flt.fok a0 = true
  · rw [if_pos c2] at H
    have c2b0 : Flt.fok a0 = true := c2
    have hfc2_0 := Flt.conv_if (P := Try.prog) Try.underlying2 Try.underlying93 (of_decide_eq_true c2b0)
    have hfc2_1 := Flt.conv_if (P := Try.prog) Try.underlying3 Try.underlying93 (of_decide_eq_true c2b0)
    have hfc2_2 := Flt.conv_fi (P := Try.prog) Try.underlying93 Try.underlying2 (of_decide_eq_true c2b0)
    have hfc2_3 := Flt.order_least_I (of_decide_eq_true c2b0)
    have hfc2_4 := Flt.order_most (of_decide_eq_true c2b0)
    have hfc2_5 := Flt.order_self (of_decide_eq_true c2b0)
    clear c2
    obtain rfl := Option.some.inj H
    go_enter Try.func58, Try.ntmps58
    go_wp2
    go_ret
    exact ⟨by first | rfl | (simp; done) | (simp [*]; done), by repeat (first | exact Drawn0.refl _ | apply Drawn0.step)⟩
  · rw [if_neg c2] at H
    exact absurd H (by simp)

end Go.Proofs.Ytfiomckebicphaa.B
