-- laid by the session's own program (xprint.py) out of Lean's print of the program; Lean checks it
import Derived.Test.YtfiomckebicphaaB0
namespace Go.Proofs.Ytfiomckebicphaa.B
open Go.RowKit Go.Proofs.YtfiomckebicphaaW.PrintWords Go.Proofs.YtfiomckebicphaaW.PrintLast Go.Proofs.YtfiomckebicphaaW.PrintMore
attribute [local go_sem] max2_int min2_int max_two min_two max_three min_three max_four min_four   -- for this text's walks alone
set_option linter.unusedVariables false
set_option linter.unusedSimpArgs false

/-! ### band_width: function 59 -/
def band_width.f (a0 : Int) (a1 : Int) (l2 : List (S30)) : Option (Int) := if (wrap64 (a1 + 1)) < (l2.length : Int) then (if 0 ≤ (wrap64 (a1 + 1)) then (if 0 ≤ a1 then (if a1 < (l2.length : Int) then (some (mx 0 (wrap64 ((mn a0 ((rd_T30 l2 (wrap64 (a1 + 1))).f0)) - ((rd_T30 l2 a1).f0))))) else (none)) else (none)) else (none)) else (if 0 ≤ a1 then (if a1 < (l2.length : Int) then (some (mx 0 (wrap64 (a0 - ((rd_T30 l2 a1).f0))))) else (none)) else (none))
set_option maxHeartbeats 8000000 in
set_option maxRecDepth 100000 in
theorem band_width.calls (a0 : Int) (a1 : Int) (A2 : Option Addr) (c2 : Nat) (l2 : List (S30)) (r : Int) (w : World) (hr2 : Kd.C k30 w A2 l2.length l2) (hc2 : l2.length ≤ c2) (h : band_width.f a0 a1 l2 = some r) :
    Calls Try.prog 59 #[.int .i64 a0, .int .i64 a1, .slice A2 l2.length c2] w fun e w' => e = .returned (.int .i64 r) ∧ Below w.heap.size w w' := by
  have HR2 := Aside0.mk hr2
  have HC2 := Aside0.mk hc2
  clear hr2 hc2
  have HB := Aside0.mk (Below.refl w.heap.size w)
  have H : (if (wrap64 (a1 + 1)) < (l2.length : Int) then (if 0 ≤ (wrap64 (a1 + 1)) then (if 0 ≤ a1 then (if a1 < (l2.length : Int) then (some (mx 0 (wrap64 ((mn a0 ((rd_T30 l2 (wrap64 (a1 + 1))).f0)) - ((rd_T30 l2 a1).f0))))) else (none)) else (none)) else (none)) else (if 0 ≤ a1 then (if a1 < (l2.length : Int) then (some (mx 0 (wrap64 (a0 - ((rd_T30 l2 a1).f0))))) else (none)) else (none))) = some r := h
  clear h
  by_cases c4 : (wrap64 (a1 + 1)) < (l2.length : Int)
  · rw [if_pos c4] at H
    have c4b0 : decide ((wrap64 (a1 + 1)) < (l2.length : Int)) = true := decide_eq_true c4
    clear c4
    obtain ⟨ji5, hji5⟩ : ∃ j_ : Int, (wrap64 (a1 + 1)) = j_ := ⟨_, rfl⟩
    replace H : (if 0 ≤ (ji5) then (if 0 ≤ a1 then (if a1 < (l2.length : Int) then (some (mx 0 (wrap64 ((mn a0 ((rd_T30 l2 (ji5)).f0)) - ((rd_T30 l2 a1).f0))))) else (none)) else (none)) else (none)) = some r := by first | (rw [hji5] at H; exact H) | (simp only [hji5] at H ⊢; exact H)
    (try rw [hji5] at c4b0)
    have hji5w : (IntKind.i64.wrap (a1 + 1)) = ji5 := (i64_w _).trans hji5
    by_cases c6 : 0 ≤ (ji5)
    · rw [if_pos c6] at H
      have c6b0 : decide (0 ≤ (ji5)) = true := decide_eq_true c6
      clear c6
      obtain ⟨ji7, hji7⟩ : ∃ j_ : Int, (mn a0 ((rd_T30 l2 (ji5)).f0)) = j_ := ⟨_, rfl⟩
      replace H : (if 0 ≤ a1 then (if a1 < (l2.length : Int) then (some (mx 0 (wrap64 ((ji7) - ((rd_T30 l2 a1).f0))))) else (none)) else (none)) = some r := by first | (rw [hji7] at H; exact H) | (simp only [hji7] at H ⊢; exact H)
      have hji7_ : (if ((rd_T30 l2 (ji5)).f0) < a0 then ((rd_T30 l2 (ji5)).f0) else a0) = ji7 := hji7
      by_cases c8 : 0 ≤ a1
      · rw [if_pos c8] at H
        have c8b0 : decide (0 ≤ a1) = true := decide_eq_true c8
        clear c8
        by_cases c9 : a1 < (l2.length : Int)
        · rw [if_pos c9] at H
          have c9b0 : decide (a1 < (l2.length : Int)) = true := decide_eq_true c9
          clear c9
          obtain ⟨ji10, hji10⟩ : ∃ j_ : Int, (mx 0 (wrap64 ((ji7) - ((rd_T30 l2 a1).f0)))) = j_ := ⟨_, rfl⟩
          replace H : (some ji10) = some r := by first | (rw [hji10] at H; exact H) | (simp only [hji10] at H ⊢; exact H)
          have hji10_ : (if 0 < (wrap64 ((ji7) - ((rd_T30 l2 a1).f0))) then (wrap64 ((ji7) - ((rd_T30 l2 a1).f0))) else 0) = ji10 := hji10
          obtain rfl := Option.some.inj H
          have p131 : 0 ≤ ((ji5) : Int) := of_decide_eq_true (by first | (with_reducible assumption) | assumption)
          have q131 : (ji5) < (l2.length : Int) := of_decide_eq_true (by first | (with_reducible assumption) | assumption)
          obtain ⟨ad131, e131, hx131_0, hx131_1, hx131_2⟩ := at_T30 HR2.out (ji5) p131 q131
          cases e131
          replace p131 := eq_true p131
          replace q131 := eq_true q131
          have p132 : 0 ≤ (a1 : Int) := of_decide_eq_true (by first | (with_reducible assumption) | assumption)
          have q132 : a1 < (l2.length : Int) := of_decide_eq_true (by first | (with_reducible assumption) | assumption)
          obtain ⟨ad132, e132, hx132_0, hx132_1, hx132_2⟩ := at_T30 HR2.out a1 p132 q132
          obtain rfl : ad131 = ad132 := (by injection e132)
          replace p132 := eq_true p132
          replace q132 := eq_true q132
          go_enter Try.func59, Try.ntmps59
          go_wp2
          go_ret
          exact ⟨by first | rfl | (simp [errW_none, errW_some] <;> rfl) | (simp only [← hji5, ← hji7, ← hji10]; first | rfl | (simp [errW_none, errW_some] <;> rfl)) | (simp [*, errW_none, errW_some] <;> rfl), by repeat (first | (with_reducible first | exact HB.out | apply below_alloc | apply pw_below_drewN | apply below_drew1) | exact HB.out)⟩
        · rw [if_neg c9] at H
          exact absurd H (by simp)
      · rw [if_neg c8] at H
        exact absurd H (by simp)
    · rw [if_neg c6] at H
      exact absurd H (by simp)
  · rw [if_neg c4] at H
    have c4b0 : decide ((wrap64 (a1 + 1)) < (l2.length : Int)) = false := decide_eq_false c4
    clear c4
    by_cases c11 : 0 ≤ a1
    · rw [if_pos c11] at H
      have c11b0 : decide (0 ≤ a1) = true := decide_eq_true c11
      clear c11
      by_cases c12 : a1 < (l2.length : Int)
      · rw [if_pos c12] at H
        have c12b0 : decide (a1 < (l2.length : Int)) = true := decide_eq_true c12
        clear c12
        obtain ⟨ji13, hji13⟩ : ∃ j_ : Int, (mx 0 (wrap64 (a0 - ((rd_T30 l2 a1).f0)))) = j_ := ⟨_, rfl⟩
        replace H : (some ji13) = some r := by first | (rw [hji13] at H; exact H) | (simp only [hji13] at H ⊢; exact H)
        (try (have hji13l : 0 ≤ ji13 := by (rw [← hji13]; unfold mx; (repeat' split) <;> omega)))
        (try (have hji13m : 0 ≤ ji13 := by omega))
        have hji13_ : (if 0 < (wrap64 (a0 - ((rd_T30 l2 a1).f0))) then (wrap64 (a0 - ((rd_T30 l2 a1).f0))) else 0) = ji13 := hji13
        obtain rfl := Option.some.inj H
        have p133 : 0 ≤ (a1 : Int) := of_decide_eq_true (by first | (with_reducible assumption) | assumption)
        have q133 : a1 < (l2.length : Int) := of_decide_eq_true (by first | (with_reducible assumption) | assumption)
        obtain ⟨ad133, e133, hx133_0, hx133_1, hx133_2⟩ := at_T30 HR2.out a1 p133 q133
        cases e133
        replace p133 := eq_true p133
        replace q133 := eq_true q133
        go_enter Try.func59, Try.ntmps59
        go_wp2
        go_ret
        exact ⟨by first | rfl | (simp [errW_none, errW_some] <;> rfl) | (simp only [← hji13]; first | rfl | (simp [errW_none, errW_some] <;> rfl)) | (simp [*, errW_none, errW_some] <;> rfl), by repeat (first | (with_reducible first | exact HB.out | apply below_alloc | apply pw_below_drewN | apply below_drew1) | exact HB.out)⟩
      · rw [if_neg c12] at H
        exact absurd H (by simp)
    · rw [if_neg c11] at H
      exact absurd H (by simp)

end Go.Proofs.Ytfiomckebicphaa.B
