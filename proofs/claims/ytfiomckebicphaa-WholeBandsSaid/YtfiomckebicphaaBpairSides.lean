-- laid by the session's own program (xprint.py) out of Lean's print of the program; Lean checks it
import Derived.Test.YtfiomckebicphaaB0
import Derived.Test.YtfiomckebicphaaBpairRight
namespace Go.Proofs.Ytfiomckebicphaa.B
open Go.RowKit Go.Proofs.YtfiomckebicphaaW.PrintWords Go.Proofs.YtfiomckebicphaaW.PrintLast Go.Proofs.YtfiomckebicphaaW.PrintMore
attribute [local go_sem] max2_int min2_int max_two min_two max_three min_three max_four min_four   -- for this text's walks alone
set_option linter.unusedVariables false
set_option linter.unusedSimpArgs false

/-! ### pair_Sides: function 16 -/
def pair_Sides.f (a0 : (Int × Int)) : Option (Int × Int × Int) := (pair_Right.f a0).bind fun t123 => (if t123 = true then (if Flt.fok a0.1 = true then (if Flt.fok a0.2 = true then (some (a0.1, a0.2, 0)) else (none)) else (none)) else (some (0, 0, 10)))
set_option maxHeartbeats 8000000 in
set_option maxRecDepth 100000 in
theorem pair_Sides.calls (a0 : (Int × Int)) (r1 : Int) (r2 : Int) (r3 : Int) (w : World) (h : pair_Sides.f a0 = some (r1, r2, r3)) :
    Calls Try.prog 16 #[.complex .f64 (Flt.FI a0.1) (Flt.FI a0.2)] w fun e w' => e = .returned (.tuple #[.int .i64 r1, .int .i64 r2, .int .i64 r3]) ∧ Below w.heap.size w w' := by
  have HB := Aside0.mk (Below.refl w.heap.size w)
  have hcx_ := Flt.run_complex (P := Try.prog)
  have hre_ := Flt.run_real (P := Try.prog)
  have him_ := Flt.run_imag (P := Try.prog)
  have H : ((pair_Right.f a0).bind fun t123 => (if t123 = true then (if Flt.fok a0.1 = true then (if Flt.fok a0.2 = true then (some (a0.1, a0.2, 0)) else (none)) else (none)) else (some (0, 0, 10)))) = some (r1, r2, r3) := h
  clear h
  replace H := Option.bind_eq_some_iff.mp H
  obtain ⟨t123, A20, H⟩ := H
  replace H : (if t123 = true then (if Flt.fok a0.1 = true then (if Flt.fok a0.2 = true then (some (a0.1, a0.2, 0)) else (none)) else (none)) else (some (0, 0, 10))) = some (r1, r2, r3) := H
  have A2 := Aside0.mk A20
  clear A20
  by_cases c3 : t123 = true
  · subst c3
    have H1 : (if Flt.fok a0.1 = true then (if Flt.fok a0.2 = true then (some (a0.1, a0.2, 0)) else (none)) else (none)) = some (r1, r2, r3) := by rw [if_pos rfl] at H; exact H
    clear H
    have H := H1
    clear H1
    by_cases c4 : Flt.fok a0.1 = true
    · rw [if_pos c4] at H
      have c4b0 : Flt.fok a0.1 = true := c4
      have hfc4_0 := Flt.conv_if (P := Try.prog) Try.underlying2 Try.underlying93 (of_decide_eq_true c4b0)
      have hfc4_1 := Flt.conv_if (P := Try.prog) Try.underlying3 Try.underlying93 (of_decide_eq_true c4b0)
      have hfc4_2 := Flt.conv_fi (P := Try.prog) Try.underlying93 Try.underlying2 (of_decide_eq_true c4b0)
      have hfc4_3 := Flt.order_least_I (of_decide_eq_true c4b0)
      have hfc4_4 := Flt.order_most (of_decide_eq_true c4b0)
      have hfc4_5 := Flt.order_self (of_decide_eq_true c4b0)
      clear c4
      by_cases c5 : Flt.fok a0.2 = true
      · rw [if_pos c5] at H
        have c5b0 : Flt.fok a0.2 = true := c5
        have hfc5_0 := Flt.conv_if (P := Try.prog) Try.underlying2 Try.underlying93 (of_decide_eq_true c5b0)
        have hfc5_1 := Flt.conv_if (P := Try.prog) Try.underlying3 Try.underlying93 (of_decide_eq_true c5b0)
        have hfc5_2 := Flt.conv_fi (P := Try.prog) Try.underlying93 Try.underlying2 (of_decide_eq_true c5b0)
        have hfc5_3 := Flt.order_least_I (of_decide_eq_true c5b0)
        have hfc5_4 := Flt.order_most (of_decide_eq_true c5b0)
        have hfc5_5 := Flt.order_self (of_decide_eq_true c5b0)
        clear c5
        simp only [Option.some.injEq, Prod.mk.injEq] at H
        obtain ⟨rfl, rfl, rfl⟩ := H
        go_enter Try.func16, Try.ntmps16
        go_wp2_with (first | ((with_reducible refine gate_callee (f := 44) rfl ?_); refine goesL_ (some 6) rfl rfl Try.func44 (by kernel_rfl) rfl #[.complex .f64 (Flt.FI a0.1) (Flt.FI a0.2)] rfl (by (try simp only [List.map_toArray, List.map_cons, List.map_nil]); first | done | rfl | (simp only [List.length_drop, List.length_take]; rfl)) ?_; (with_reducible refine (pair_Right.calls a0 true _ A2.out).mono ?_); rintro e w6 ⟨rfl, hb⟩; refine ⟨_, rfl, ?_⟩; have n0_ := Aside0.mk (below_step (by repeat (first | (with_reducible first | exact HB.out | apply below_alloc | apply pw_below_drewN | apply below_drew1) | exact HB.out)) hb); clear HB; have HB := n0_; clear n0_; (try clear hb); (try clear hb2); (try clear hk); (try clear hi)))
        go_ret3
        exact ⟨by first | rfl | (simp [errW_none, errW_some] <;> rfl) | (simp [*, errW_none, errW_some] <;> rfl), by repeat (first | (with_reducible first | exact HB.out | apply below_alloc | apply pw_below_drewN | apply below_drew1) | exact HB.out)⟩
      · rw [if_neg c5] at H
        exact absurd H (by simp)
    · rw [if_neg c4] at H
      exact absurd H (by simp)
  · replace c3 := Bool.eq_false_iff.mpr c3
    subst c3
    have H1 : (some (0, 0, 10)) = some (r1, r2, r3) := by rw [if_neg (show ¬ (false = true) by decide)] at H; exact H
    clear H
    have H := H1
    clear H1
    simp only [Option.some.injEq, Prod.mk.injEq] at H
    obtain ⟨rfl, rfl, rfl⟩ := H
    go_enter Try.func16, Try.ntmps16
    go_wp2_with (first | ((with_reducible refine gate_callee (f := 44) rfl ?_); refine goesL_ (some 6) rfl rfl Try.func44 (by kernel_rfl) rfl #[.complex .f64 (Flt.FI a0.1) (Flt.FI a0.2)] rfl (by (try simp only [List.map_toArray, List.map_cons, List.map_nil]); first | done | rfl | (simp only [List.length_drop, List.length_take]; rfl)) ?_; (with_reducible refine (pair_Right.calls a0 false _ A2.out).mono ?_); rintro e w7 ⟨rfl, hb⟩; refine ⟨_, rfl, ?_⟩; have n0_ := Aside0.mk (below_step (by repeat (first | (with_reducible first | exact HB.out | apply below_alloc | apply pw_below_drewN | apply below_drew1) | exact HB.out)) hb); clear HB; have HB := n0_; clear n0_; (try clear hb); (try clear hb2); (try clear hk); (try clear hi)))
    go_ret3
    exact ⟨by first | rfl | (simp [errW_none, errW_some] <;> rfl) | (simp [*, errW_none, errW_some] <;> rfl), by repeat (first | (with_reducible first | exact HB.out | apply below_alloc | apply pw_below_drewN | apply below_drew1) | exact HB.out)⟩

end Go.Proofs.Ytfiomckebicphaa.B
