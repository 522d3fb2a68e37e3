-- laid by the session's own program (xprint.py) out of Lean's print of the program; Lean checks it
import Derived.Test.YtfiomckebicphaaB0
namespace Go.Proofs.Ytfiomckebicphaa.B
open Go.RowKit Go.Proofs.YtfiomckebicphaaW.PrintWords Go.Proofs.YtfiomckebicphaaW.PrintLast Go.Proofs.YtfiomckebicphaaW.PrintMore
attribute [local go_sem] max2_int min2_int max_two min_two max_three min_three max_four min_four   -- for this text's walks alone
set_option linter.unusedVariables false
set_option linter.unusedSimpArgs false

/-! ### pair_Of: function 21 -/
def pair_Of.f (a0 : Int) (a1 : Int) : Option ((Int × Int) × Int) := if a0 > 9007199254740992 then (some ((0, 0), 10)) else (if a0 < (-9007199254740992) then (some ((0, 0), 10)) else (if a1 > 9007199254740992 then (some ((0, 0), 10)) else (if a1 < (-9007199254740992) then (some ((0, 0), 10)) else (if Flt.fok a0 = true then (if Flt.fok a1 = true then (some ((a0, a1), 0)) else (none)) else (none)))))
set_option maxHeartbeats 8000000 in
set_option maxRecDepth 100000 in
theorem pair_Of.calls (a0 : Int) (a1 : Int) (r1 : (Int × Int)) (r2 : Int) (w : World) (h : pair_Of.f a0 a1 = some (r1, r2)) :
    Calls Try.prog 21 #[.int .i64 a0, .int .i64 a1] w fun e w' => e = .returned (.tuple #[.complex .f64 (Flt.FI r1.1) (Flt.FI r1.2), .int .i64 r2]) ∧ Below w.heap.size w w' := by
  have HB := Aside0.mk (Below.refl w.heap.size w)
  have hcx_ := Flt.run_complex (P := Try.prog)
  have hre_ := Flt.run_real (P := Try.prog)
  have him_ := Flt.run_imag (P := Try.prog)
  have H : (if a0 > 9007199254740992 then (some ((0, 0), 10)) else (if a0 < (-9007199254740992) then (some ((0, 0), 10)) else (if a1 > 9007199254740992 then (some ((0, 0), 10)) else (if a1 < (-9007199254740992) then (some ((0, 0), 10)) else (if Flt.fok a0 = true then (if Flt.fok a1 = true then (some ((a0, a1), 0)) else (none)) else (none)))))) = some (r1, r2) := h
  clear h
  by_cases c3 : a0 > 9007199254740992
  · rw [if_pos c3] at H
    have c3b0 : decide (9007199254740992 < a0) = true := decide_eq_true c3
    clear c3
    simp only [Option.some.injEq, Prod.mk.injEq] at H
    obtain ⟨rfl, rfl⟩ := H
    go_enter Try.func21, Try.ntmps21
    go_wp2
    go_ret2
    exact ⟨by first | rfl | (simp [errW_none, errW_some] <;> rfl) | (simp [*, errW_none, errW_some] <;> rfl), by repeat (first | (with_reducible first | exact HB.out | apply below_alloc | apply pw_below_drewN | apply below_drew1) | exact HB.out)⟩
  · rw [if_neg c3] at H
    have c3b0 : decide (9007199254740992 < a0) = false := decide_eq_false c3
    clear c3
    by_cases c4 : a0 < (-9007199254740992)
    · rw [if_pos c4] at H
      have c4b0 : decide (a0 < (-9007199254740992)) = true := decide_eq_true c4
      clear c4
      simp only [Option.some.injEq, Prod.mk.injEq] at H
      obtain ⟨rfl, rfl⟩ := H
      go_enter Try.func21, Try.ntmps21
      go_wp2
      go_ret2
      exact ⟨by first | rfl | (simp [errW_none, errW_some] <;> rfl) | (simp [*, errW_none, errW_some] <;> rfl), by repeat (first | (with_reducible first | exact HB.out | apply below_alloc | apply pw_below_drewN | apply below_drew1) | exact HB.out)⟩
    · rw [if_neg c4] at H
      have c4b0 : decide (a0 < (-9007199254740992)) = false := decide_eq_false c4
      clear c4
      by_cases c5 : a1 > 9007199254740992
      · rw [if_pos c5] at H
        have c5b0 : decide (9007199254740992 < a1) = true := decide_eq_true c5
        clear c5
        simp only [Option.some.injEq, Prod.mk.injEq] at H
        obtain ⟨rfl, rfl⟩ := H
        go_enter Try.func21, Try.ntmps21
        go_wp2
        go_ret2
        exact ⟨by first | rfl | (simp [errW_none, errW_some] <;> rfl) | (simp [*, errW_none, errW_some] <;> rfl), by repeat (first | (with_reducible first | exact HB.out | apply below_alloc | apply pw_below_drewN | apply below_drew1) | exact HB.out)⟩
      · rw [if_neg c5] at H
        have c5b0 : decide (9007199254740992 < a1) = false := decide_eq_false c5
        clear c5
        by_cases c6 : a1 < (-9007199254740992)
        · rw [if_pos c6] at H
          have c6b0 : decide (a1 < (-9007199254740992)) = true := decide_eq_true c6
          clear c6
          simp only [Option.some.injEq, Prod.mk.injEq] at H
          obtain ⟨rfl, rfl⟩ := H
          go_enter Try.func21, Try.ntmps21
          go_wp2
          go_ret2
          exact ⟨by first | rfl | (simp [errW_none, errW_some] <;> rfl) | (simp [*, errW_none, errW_some] <;> rfl), by repeat (first | (with_reducible first | exact HB.out | apply below_alloc | apply pw_below_drewN | apply below_drew1) | exact HB.out)⟩
        · rw [if_neg c6] at H
          have c6b0 : decide (a1 < (-9007199254740992)) = false := decide_eq_false c6
          clear c6
          by_cases c7 : Flt.fok a0 = true
          · rw [if_pos c7] at H
            have c7b0 : Flt.fok a0 = true := c7
            have hfc7_0 := Flt.conv_if (P := Try.prog) Try.underlying2 Try.underlying93 (of_decide_eq_true c7b0)
            have hfc7_1 := Flt.conv_if (P := Try.prog) Try.underlying3 Try.underlying93 (of_decide_eq_true c7b0)
            have hfc7_2 := Flt.conv_fi (P := Try.prog) Try.underlying93 Try.underlying2 (of_decide_eq_true c7b0)
            have hfc7_3 := Flt.order_least_I (of_decide_eq_true c7b0)
            have hfc7_4 := Flt.order_most (of_decide_eq_true c7b0)
            have hfc7_5 := Flt.order_self (of_decide_eq_true c7b0)
            clear c7
            by_cases c8 : Flt.fok a1 = true
            · rw [if_pos c8] at H
              have c8b0 : Flt.fok a1 = true := c8
              have hfc8_0 := Flt.conv_if (P := Try.prog) Try.underlying2 Try.underlying93 (of_decide_eq_true c8b0)
              have hfc8_1 := Flt.conv_if (P := Try.prog) Try.underlying3 Try.underlying93 (of_decide_eq_true c8b0)
              have hfc8_2 := Flt.conv_fi (P := Try.prog) Try.underlying93 Try.underlying2 (of_decide_eq_true c8b0)
              have hfc8_3 := Flt.order_least_I (of_decide_eq_true c8b0)
              have hfc8_4 := Flt.order_most (of_decide_eq_true c8b0)
              have hfc8_5 := Flt.order_self (of_decide_eq_true c8b0)
              clear c8
              simp only [Option.some.injEq, Prod.mk.injEq] at H
              obtain ⟨rfl, rfl⟩ := H
              go_enter Try.func21, Try.ntmps21
              go_wp2
              go_ret2
              exact ⟨by first | rfl | (simp [errW_none, errW_some] <;> rfl) | (simp [*, errW_none, errW_some] <;> rfl), by repeat (first | (with_reducible first | exact HB.out | apply below_alloc | apply pw_below_drewN | apply below_drew1) | exact HB.out)⟩
            · rw [if_neg c8] at H
              exact absurd H (by simp)
          · rw [if_neg c7] at H
            exact absurd H (by simp)

end Go.Proofs.Ytfiomckebicphaa.B
