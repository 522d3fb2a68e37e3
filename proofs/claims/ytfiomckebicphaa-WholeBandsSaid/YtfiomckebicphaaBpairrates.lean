-- laid by the session's own program (xprint.py) out of Lean's print of the program; Lean checks it
import Derived.Test.YtfiomckebicphaaB0
namespace Go.Proofs.Ytfiomckebicphaa.B
open Go.RowKit Go.Proofs.YtfiomckebicphaaW.PrintWords Go.Proofs.YtfiomckebicphaaW.PrintLast Go.Proofs.YtfiomckebicphaaW.PrintMore
attribute [local go_sem] max2_int min2_int max_two min_two max_three min_three max_four min_four   -- for this text's walks alone
set_option linter.unusedVariables false
set_option linter.unusedSimpArgs false

/-! ### pair_rates: function 43 -/
def pair_rates.f (a0_0 : Int) (a0_1 : Int) (a0_2 : Int) : Option ((Int × Int)) := if Flt.fok a0_1 = true then (if Flt.fok a0_2 = true then (some (a0_1, a0_2)) else (none)) else (none)
set_option maxHeartbeats 8000000 in
set_option maxRecDepth 100000 in
theorem pair_rates.calls (a0_0 : Int) (a0_1 : Int) (a0_2 : Int) (r : (Int × Int)) (w : World) (h : pair_rates.f a0_0 a0_1 a0_2 = some r) :
    Calls Try.prog 43 #[.agg #[.int .i64 a0_0, .int .i64 a0_1, .int .i64 a0_2]] w fun e w' => e = .returned (.complex .f64 (Flt.FI r.1) (Flt.FI r.2)) ∧ Below w.heap.size w w' := by
  have hu30 := Try.underlying30
  have HB := Aside0.mk (Below.refl w.heap.size w)
  have hcx_ := Flt.run_complex (P := Try.prog)
  have hre_ := Flt.run_real (P := Try.prog)
  have him_ := Flt.run_imag (P := Try.prog)
  have H : (if Flt.fok a0_1 = true then (if Flt.fok a0_2 = true then (some (a0_1, a0_2)) else (none)) else (none)) = some r := h
  clear h
  by_cases c2 : Flt.fok a0_1 = true
  · rw [if_pos c2] at H
    have c2b0 : Flt.fok a0_1 = true := c2
    have hfc2_0 := Flt.conv_if (P := Try.prog) Try.underlying2 Try.underlying93 (of_decide_eq_true c2b0)
    have hfc2_1 := Flt.conv_if (P := Try.prog) Try.underlying3 Try.underlying93 (of_decide_eq_true c2b0)
    have hfc2_2 := Flt.conv_fi (P := Try.prog) Try.underlying93 Try.underlying2 (of_decide_eq_true c2b0)
    have hfc2_3 := Flt.order_least_I (of_decide_eq_true c2b0)
    have hfc2_4 := Flt.order_most (of_decide_eq_true c2b0)
    have hfc2_5 := Flt.order_self (of_decide_eq_true c2b0)
    clear c2
    by_cases c3 : Flt.fok a0_2 = true
    · rw [if_pos c3] at H
      have c3b0 : Flt.fok a0_2 = true := c3
      have hfc3_0 := Flt.conv_if (P := Try.prog) Try.underlying2 Try.underlying93 (of_decide_eq_true c3b0)
      have hfc3_1 := Flt.conv_if (P := Try.prog) Try.underlying3 Try.underlying93 (of_decide_eq_true c3b0)
      have hfc3_2 := Flt.conv_fi (P := Try.prog) Try.underlying93 Try.underlying2 (of_decide_eq_true c3b0)
      have hfc3_3 := Flt.order_least_I (of_decide_eq_true c3b0)
      have hfc3_4 := Flt.order_most (of_decide_eq_true c3b0)
      have hfc3_5 := Flt.order_self (of_decide_eq_true c3b0)
      clear c3
      obtain rfl := Option.some.inj H
      go_enter Try.func43, Try.ntmps43
      go_wp2_with (first | ((with_reducible refine gate_dst (N := 1) rfl ?_); refine box_event ?hg (N := 1) ?hd (cs := #[.int .i64 a0_0, .int .i64 a0_1, .int .i64 a0_2]) (t := 30) ?hr ?_; (case hd => rfl); (case hg => rfl); (case hr => first | (go_simp; done) | (go_simp; rfl)); intro gb107 hg w4 hbox hb; have n0_ := Aside0.mk (below_step (by repeat (first | (with_reducible first | exact HB.out | apply below_alloc | apply pw_below_drewN | apply below_drew1) | exact HB.out)) hb); have n1_ := Aside0.mk (hbox); have n2_ := Aside0.mk ((by rw [hg]; exact (below_size (by repeat (first | (with_reducible first | exact HB.out | apply below_alloc | apply pw_below_drewN | apply below_drew1) | exact HB.out))) : w.heap.size ≤ gb107)); have n3_ := Aside0.mk ((by rw [hg]; exact (below_size (by repeat (first | (with_reducible first | exact HB.out | apply below_alloc | apply pw_below_drewN | apply below_drew1) | exact HB.out))) : w.heap.size ≤ gb107)); clear HB; have HB := n0_; have BK107 := n1_; have GW107 := n2_; have GE107 := n3_; clear n0_ n1_ n2_ n3_; clear hb hbox hg; have hcz5_0 : w4.cell? ⟨gb107, 0, none⟩ = some (.int .i64 a0_0) := (blk_cell BK107.out 0).trans rfl; have hcz5_1 : w4.cell? ⟨gb107, 1, none⟩ = some (.int .i64 a0_1) := (blk_cell BK107.out 1).trans rfl; have hcz5_2 : w4.cell? ⟨gb107, 2, none⟩ = some (.int .i64 a0_2) := (blk_cell BK107.out 2).trans rfl; have hfz5_0 := blk_frozen BK107.out 0; have hfz5_1 := blk_frozen BK107.out 1; have hfz5_2 := blk_frozen BK107.out 2))
      go_ret
      exact ⟨by first | rfl | (simp [errW_none, errW_some] <;> rfl) | (simp [*, errW_none, errW_some] <;> rfl), by repeat (first | (with_reducible first | exact HB.out | apply below_alloc | apply pw_below_drewN | apply below_drew1 | refine below_set ?_ GE107.out) | exact HB.out)⟩
    · rw [if_neg c3] at H
      exact absurd H (by simp)
  · rw [if_neg c2] at H
    exact absurd H (by simp)

end Go.Proofs.Ytfiomckebicphaa.B
