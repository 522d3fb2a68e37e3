-- laid by the session's own program (xprint.py) out of Lean's print of the program; Lean checks it
import Derived.Test.YtfiomckebicphaaX0
import Derived.Test.YtfiomckebicphaaXbitsMul64
import Derived.Test.YtfiomckebicphaaXmoneyAbs
namespace Go.Proofs.Ytfiomckebicphaa.X
open Go.RowKit Go.Proofs.YtfiomckebicphaaW.PrintWords Go.Proofs.YtfiomckebicphaaW.PrintLast Go.Proofs.YtfiomckebicphaaW.PrintMore
attribute [local go_sem] max2_int min2_int max_two min_two max_three min_three max_four min_four   -- for this text's walks alone
set_option linter.unusedVariables false
set_option linter.unusedSimpArgs false

/-! ### frac_Compare: function 34 -/
mutual
def frac_Compare.j0 : Nat → Int → Int → Int → Int → Bool → Option (Int × Int)
  | 0, _, _, _, _, _ => none
  | k + 1, x0, x1, x2, x3, x20 => if x20 = true then (some (0, 1)) else (if ((decide (x0 < 0)) != (decide (x2 < 0))) = true then (if x0 < 0 then (some ((-1), 0)) else (some (1, 0))) else ((money_Abs.f x0).bind fun t116 => ((bits_Mul64.f t116 (IntKind.u64.wrap (x3))).bind fun bt117 => ((money_Abs.f x2).bind fun t119 => ((bits_Mul64.f t119 (IntKind.u64.wrap (x1))).bind fun bt120 => (if bt117.1 < bt120.1 then (frac_Compare.j1 k x0 bt117.1 bt117.2 bt120.1 bt120.2 0 true) else (if bt117.1 = bt120.1 then (frac_Compare.j1 k x0 bt117.1 bt117.2 bt120.1 bt120.2 0 (decide (bt117.2 < bt120.2))) else (frac_Compare.j1 k x0 bt117.1 bt117.2 bt120.1 bt120.2 0 false))))))))
def frac_Compare.j1 : Nat → Int → Int → Int → Int → Int → Int → Bool → Option (Int × Int)
  | 0, _, _, _, _, _, _, _ => none
  | k + 1, x0, x10, x11, x12, x13, x14, x44 => if x44 = true then (if x0 < 0 then (some (-(-1), 0)) else (some ((-1), 0))) else (if x10 > x12 then (frac_Compare.j2 k x0 x14 true) else (frac_Compare.j2 k x0 x14 (decide (x11 > x13))))
def frac_Compare.j2 : Nat → Int → Int → Bool → Option (Int × Int)
  | 0, _, _, _ => none
  | k + 1, x0, x14, x58 => if x58 = true then (if x0 < 0 then (some (-1, 0)) else (some (1, 0))) else (if x0 < 0 then (some (wrap64 (-x14), 0)) else (some (x14, 0)))
end
def frac_Compare.f (k : Nat) (a0 : Int) (a1 : Int) (a2 : Int) (a3 : Int) : Option (Int × Int) := if a1 ≤ 0 then (frac_Compare.j0 k a0 a1 a2 a3 true) else (frac_Compare.j0 k a0 a1 a2 a3 (decide (a3 ≤ 0)))
theorem frac_Compare.mono_l : ∀ k, (∀ y0 y1 y2 y3 y4, LeO (frac_Compare.j0 k y0 y1 y2 y3 y4) (frac_Compare.j0 (k + 1) y0 y1 y2 y3 y4)) ∧ (∀ y0 y1 y2 y3 y4 y5 y6, LeO (frac_Compare.j1 k y0 y1 y2 y3 y4 y5 y6) (frac_Compare.j1 (k + 1) y0 y1 y2 y3 y4 y5 y6)) ∧ (∀ y0 y1 y2, LeO (frac_Compare.j2 k y0 y1 y2) (frac_Compare.j2 (k + 1) y0 y1 y2))
  | 0 => ⟨fun _ _ _ _ _ r h => by simp [frac_Compare.j0] at h, fun _ _ _ _ _ _ _ r h => by simp [frac_Compare.j1] at h, fun _ _ _ r h => by simp [frac_Compare.j2] at h⟩
  | k + 1 => by
    obtain ⟨ih0, ih1, ih2⟩ := frac_Compare.mono_l k
    refine ⟨?_, ?_, ?_⟩
    · intro y0 y1 y2 y3 y4
      unfold frac_Compare.j0
      repeat' first
      | (with_reducible exact ih0 _ _ _ _ _)
      | (with_reducible exact ih1 _ _ _ _ _ _ _)
      | (with_reducible exact ih2 _ _ _)
      | (with_reducible exact LeO.refl _)
      | (with_reducible exact LeO.none _)
      | (with_reducible refine LeO.ite ?_ ?_)
      | (with_reducible refine LeO.bind ?_ (fun _ => ?_))
      | exact ih0 _ _ _ _ _
      | exact ih1 _ _ _ _ _ _ _
      | exact ih2 _ _ _
      | exact LeO.none _
      | refine LeO.ite ?_ ?_
      | refine LeO.bind ?_ (fun _ => ?_)
    · intro y0 y1 y2 y3 y4 y5 y6
      unfold frac_Compare.j1
      repeat' first
      | (with_reducible exact ih0 _ _ _ _ _)
      | (with_reducible exact ih1 _ _ _ _ _ _ _)
      | (with_reducible exact ih2 _ _ _)
      | (with_reducible exact LeO.refl _)
      | (with_reducible exact LeO.none _)
      | (with_reducible refine LeO.ite ?_ ?_)
      | (with_reducible refine LeO.bind ?_ (fun _ => ?_))
      | exact ih0 _ _ _ _ _
      | exact ih1 _ _ _ _ _ _ _
      | exact ih2 _ _ _
      | exact LeO.none _
      | refine LeO.ite ?_ ?_
      | refine LeO.bind ?_ (fun _ => ?_)
    · intro y0 y1 y2
      unfold frac_Compare.j2
      repeat' first
      | (with_reducible exact ih0 _ _ _ _ _)
      | (with_reducible exact ih1 _ _ _ _ _ _ _)
      | (with_reducible exact ih2 _ _ _)
      | (with_reducible exact LeO.refl _)
      | (with_reducible exact LeO.none _)
      | (with_reducible refine LeO.ite ?_ ?_)
      | (with_reducible refine LeO.bind ?_ (fun _ => ?_))
      | exact ih0 _ _ _ _ _
      | exact ih1 _ _ _ _ _ _ _
      | exact ih2 _ _ _
      | exact LeO.none _
      | refine LeO.ite ?_ ?_
      | refine LeO.bind ?_ (fun _ => ?_)
theorem frac_Compare.mono : ∀ a0 a1 a2 a3 k, LeO (frac_Compare.f k a0 a1 a2 a3) (frac_Compare.f (k + 1) a0 a1 a2 a3) := by
  intro a0 a1 a2 a3 k
  obtain ⟨ih0, ih1, ih2⟩ := frac_Compare.mono_l k
  unfold frac_Compare.f
  repeat' first
      | (with_reducible exact ih0 _ _ _ _ _)
      | (with_reducible exact ih1 _ _ _ _ _ _ _)
      | (with_reducible exact ih2 _ _ _)
      | (with_reducible exact LeO.refl _)
      | (with_reducible exact LeO.none _)
      | (with_reducible refine LeO.ite ?_ ?_)
      | (with_reducible refine LeO.bind ?_ (fun _ => ?_))
      | exact ih0 _ _ _ _ _
      | exact ih1 _ _ _ _ _ _ _
      | exact ih2 _ _ _
      | exact LeO.none _
      | refine LeO.ite ?_ ?_
      | refine LeO.bind ?_ (fun _ => ?_)
set_option maxHeartbeats 8000000 in
set_option maxRecDepth 100000 in
theorem frac_Compare.calls (k : Nat) (a0 : Int) (a1 : Int) (a2 : Int) (a3 : Int) (r1 : Int) (r2 : Int) (w : World) (h : frac_Compare.f k a0 a1 a2 a3 = some (r1, r2)) :
    Calls Try.prog 34 #[.int .i64 a0, .int .i64 a1, .int .i64 a2, .int .i64 a3] w fun e w' => e = .returned (.tuple #[.int .i64 r1, .int .i64 r2]) ∧ Drawn0 w w' := by
  have H : (if a1 ≤ 0 then (frac_Compare.j0 k a0 a1 a2 a3 true) else (frac_Compare.j0 k a0 a1 a2 a3 (decide (a3 ≤ 0)))) = some (r1, r2) := h
  clear h
  have HC5 := Aside0.mk H
  clear H
  go_enter Try.func34, Try.ntmps34
  go_upto_region 1 with (fail)
  go_cut [20] (fun v20 wc => ∃ (kq : Nat) (x20_4 : Bool), v20 = .bool x20_4 ∧ Aside0 (frac_Compare.j0 kq a0 a1 a2 a3 x20_4 = some (r1, r2)) ∧ Aside0 (kq ≤ k) ∧ Drawn0 w wc)
  case first =>
    have H := HC5.out
    clear HC5
    by_cases c6 : a1 ≤ 0
    · rw [if_pos c6] at H
      have c6b0 : decide (a1 ≤ 0) = true := decide_eq_true c6
      clear c6
      (first | rw [c6b0] | (simp only [i64_w, i32_w]; rw [c6b0]) | skip)
      have H' := Aside0.mk H
      clear H
      go_wp2
      go_meet
      case rel => exact ⟨_, (true), (by first | rfl | (simp; done) | (simp [*]; done)), H', ⟨by first | omega | exact Nat.le_refl _⟩, by repeat (first | exact Drawn0.refl _ | apply Drawn0.step)⟩
    · rw [if_neg c6] at H
      have c6b0 : decide (a1 ≤ 0) = false := decide_eq_false c6
      clear c6
      (first | rw [c6b0] | (simp only [i64_w, i32_w]; rw [c6b0]) | skip)
      have H' := Aside0.mk H
      clear H
      go_wp2
      go_meet
      case rel => exact ⟨_, (decide (a3 ≤ 0)), (by first | rfl | (simp; done) | (simp [*]; done)), H', ⟨by first | omega | exact Nat.le_refl _⟩, by repeat (first | exact Drawn0.refl _ | apply Drawn0.step)⟩
  case rest =>
    clear HC5
    try clear p2
    try clear c3
    try clear c6
    try clear c6b0
    obtain ⟨kq, x20_4, rfl, HA, HJ4, ⟨mc4, rfl⟩⟩ := hcut
    cases kq with
    | zero => exact absurd HA.out (by simp [frac_Compare.j0])
    | succ kj4 =>
      have H := HA.out
      clear HA
      simp only [frac_Compare.j0] at H
      by_cases c7 : x20_4 = true
      · subst c7
        have H1 : (some (0, 1)) = some (r1, r2) := by rw [if_pos rfl] at H; exact H
        clear H
        have H := H1
        clear H1
        simp only [Option.some.injEq, Prod.mk.injEq] at H
        obtain ⟨rfl, rfl⟩ := H
        go_wp2
        go_ret2
        exact ⟨by first | rfl | (simp; done) | (simp [*]; done) | (simp; unfold wrap64; omega), by repeat (first | exact Drawn0.refl _ | apply Drawn0.step)⟩
      · replace c7 := Bool.eq_false_iff.mpr c7
        subst c7
        have H1 : (if ((decide (a0 < 0)) != (decide (a2 < 0))) = true then (if a0 < 0 then (some ((-1), 0)) else (some (1, 0))) else ((money_Abs.f a0).bind fun t116 => ((bits_Mul64.f t116 (IntKind.u64.wrap (a3))).bind fun bt117 => ((money_Abs.f a2).bind fun t119 => ((bits_Mul64.f t119 (IntKind.u64.wrap (a1))).bind fun bt120 => (if bt117.1 < bt120.1 then (frac_Compare.j1 kj4 a0 bt117.1 bt117.2 bt120.1 bt120.2 0 true) else (if bt117.1 = bt120.1 then (frac_Compare.j1 kj4 a0 bt117.1 bt117.2 bt120.1 bt120.2 0 (decide (bt117.2 < bt120.2))) else (frac_Compare.j1 kj4 a0 bt117.1 bt117.2 bt120.1 bt120.2 0 false)))))))) = some (r1, r2) := by rw [if_neg (show ¬ (false = true) by decide)] at H; exact H
        clear H
        have H := H1
        clear H1
        by_cases c8 : ((decide (a0 < 0)) != (decide (a2 < 0))) = true
        · rw [if_pos c8] at H
          have c8b0 : ((decide (a0 < 0)) != (decide (a2 < 0))) = true := c8
          (try (have c8b1 : decide ((decide (a0 < 0)) = (decide (a2 < 0))) = false := by simpa using c8))
          (try (have c8b2 : ((decide (a0 < 0)) == (decide (a2 < 0))) = false := by simpa using c8))
          (try (have c8b3 : ¬ ((decide (a0 < 0)) = (decide (a2 < 0))) := by simpa using c8))
          clear c8
          by_cases c9 : a0 < 0
          · rw [if_pos c9] at H
            have c9b0 : decide (a0 < 0) = true := decide_eq_true c9
            (try (first | (have c9xc8 : (decide (a2 < 0)) = true := by have z := c8b0; rw [c9b0] at z; revert z; cases (decide (a2 < 0)) <;> decide) | (have c9xc8 : (decide (a2 < 0)) = false := by have z := c8b0; rw [c9b0] at z; revert z; cases (decide (a2 < 0)) <;> decide)))
            clear c9
            simp only [Option.some.injEq, Prod.mk.injEq] at H
            obtain ⟨rfl, rfl⟩ := H
            go_wp2
            go_ret2
            exact ⟨by first | rfl | (simp; done) | (simp [*]; done) | (simp; unfold wrap64; omega), by repeat (first | exact Drawn0.refl _ | apply Drawn0.step)⟩
          · rw [if_neg c9] at H
            have c9b0 : decide (a0 < 0) = false := decide_eq_false c9
            (try (first | (have c9xc8 : (decide (a2 < 0)) = true := by have z := c8b0; rw [c9b0] at z; revert z; cases (decide (a2 < 0)) <;> decide) | (have c9xc8 : (decide (a2 < 0)) = false := by have z := c8b0; rw [c9b0] at z; revert z; cases (decide (a2 < 0)) <;> decide)))
            clear c9
            simp only [Option.some.injEq, Prod.mk.injEq] at H
            obtain ⟨rfl, rfl⟩ := H
            go_wp2
            go_ret2
            exact ⟨by first | rfl | (simp; done) | (simp [*]; done) | (simp; unfold wrap64; omega), by repeat (first | exact Drawn0.refl _ | apply Drawn0.step)⟩
        · rw [if_neg c8] at H
          have c8b0 : ((decide (a0 < 0)) != (decide (a2 < 0))) = false := by simpa using c8
          (try (have c8b1 : decide ((decide (a0 < 0)) = (decide (a2 < 0))) = true := by simpa using c8))
          (try (have c8b2 : ((decide (a0 < 0)) == (decide (a2 < 0))) = true := by simpa using c8))
          clear c8
          replace H := Option.bind_eq_some_iff.mp H
          obtain ⟨t116, A100, H⟩ := H
          replace H : ((bits_Mul64.f t116 (IntKind.u64.wrap (a3))).bind fun bt117 => ((money_Abs.f a2).bind fun t119 => ((bits_Mul64.f t119 (IntKind.u64.wrap (a1))).bind fun bt120 => (if bt117.1 < bt120.1 then (frac_Compare.j1 kj4 a0 bt117.1 bt117.2 bt120.1 bt120.2 0 true) else (if bt117.1 = bt120.1 then (frac_Compare.j1 kj4 a0 bt117.1 bt117.2 bt120.1 bt120.2 0 (decide (bt117.2 < bt120.2))) else (frac_Compare.j1 kj4 a0 bt117.1 bt117.2 bt120.1 bt120.2 0 false)))))) = some (r1, r2) := H
          have A10 := Aside0.mk A100
          clear A100
          replace H := Option.bind_eq_some_iff.mp H
          obtain ⟨⟨t117, t118⟩, A110, H⟩ := H
          replace H : ((money_Abs.f a2).bind fun t119 => ((bits_Mul64.f t119 (IntKind.u64.wrap (a1))).bind fun bt120 => (if t117 < bt120.1 then (frac_Compare.j1 kj4 a0 t117 t118 bt120.1 bt120.2 0 true) else (if t117 = bt120.1 then (frac_Compare.j1 kj4 a0 t117 t118 bt120.1 bt120.2 0 (decide (t118 < bt120.2))) else (frac_Compare.j1 kj4 a0 t117 t118 bt120.1 bt120.2 0 false))))) = some (r1, r2) := H
          have A11 := Aside0.mk A110
          clear A110
          replace H := Option.bind_eq_some_iff.mp H
          obtain ⟨t119, A120, H⟩ := H
          replace H : ((bits_Mul64.f t119 (IntKind.u64.wrap (a1))).bind fun bt120 => (if t117 < bt120.1 then (frac_Compare.j1 kj4 a0 t117 t118 bt120.1 bt120.2 0 true) else (if t117 = bt120.1 then (frac_Compare.j1 kj4 a0 t117 t118 bt120.1 bt120.2 0 (decide (t118 < bt120.2))) else (frac_Compare.j1 kj4 a0 t117 t118 bt120.1 bt120.2 0 false)))) = some (r1, r2) := H
          have A12 := Aside0.mk A120
          clear A120
          replace H := Option.bind_eq_some_iff.mp H
          obtain ⟨⟨t120, t121⟩, A130, H⟩ := H
          replace H : (if t117 < t120 then (frac_Compare.j1 kj4 a0 t117 t118 t120 t121 0 true) else (if t117 = t120 then (frac_Compare.j1 kj4 a0 t117 t118 t120 t121 0 (decide (t118 < t121))) else (frac_Compare.j1 kj4 a0 t117 t118 t120 t121 0 false))) = some (r1, r2) := H
          have A13 := Aside0.mk A130
          clear A130
          have HC14 := Aside0.mk H
          clear H
          go_upto_region 10 with (first | ((with_reducible refine gate_callee (f := 57) rfl ?_); refine goesL_ (some 30) rfl rfl Try.func57 (by kernel_rfl) rfl #[.int .i64 a0] rfl (by (try simp only [List.map_toArray, List.map_cons, List.map_nil]); first | done | rfl | (simp only [List.length_drop, List.length_take]; rfl)) ?_; (with_reducible refine (money_Abs.calls a0 t116 _ A10.out).mono ?_); rintro e w' ⟨rfl, ⟨nd, rfl⟩⟩; refine ⟨_, rfl, ?_⟩) | ((with_reducible refine gate_callee (f := 56) rfl ?_); refine goesL_ (some 33) rfl rfl Try.func56 (by kernel_rfl) rfl #[.int .u64 t116, .int .u64 (IntKind.u64.wrap (a3))] rfl (by (try simp only [List.map_toArray, List.map_cons, List.map_nil]); first | done | rfl | (simp only [List.length_drop, List.length_take]; rfl)) ?_; (with_reducible refine (bits_Mul64.calls t116 (IntKind.u64.wrap (a3)) t117 t118 _ A11.out).mono ?_); rintro e w' ⟨rfl, ⟨nd, rfl⟩⟩; refine ⟨_, rfl, ?_⟩) | ((with_reducible refine gate_callee (f := 57) rfl ?_); refine goesL_ (some 38) rfl rfl Try.func57 (by kernel_rfl) rfl #[.int .i64 a2] rfl (by (try simp only [List.map_toArray, List.map_cons, List.map_nil]); first | done | rfl | (simp only [List.length_drop, List.length_take]; rfl)) ?_; (with_reducible refine (money_Abs.calls a2 t119 _ A12.out).mono ?_); rintro e w' ⟨rfl, ⟨nd, rfl⟩⟩; refine ⟨_, rfl, ?_⟩) | ((with_reducible refine gate_callee (f := 56) rfl ?_); refine goesL_ (some 41) rfl rfl Try.func56 (by kernel_rfl) rfl #[.int .u64 t119, .int .u64 (IntKind.u64.wrap (a1))] rfl (by (try simp only [List.map_toArray, List.map_cons, List.map_nil]); first | done | rfl | (simp only [List.length_drop, List.length_take]; rfl)) ?_; (with_reducible refine (bits_Mul64.calls t119 (IntKind.u64.wrap (a1)) t120 t121 _ A13.out).mono ?_); rintro e w' ⟨rfl, ⟨nd, rfl⟩⟩; refine ⟨_, rfl, ?_⟩))
          (try simp only [Act.put, List.setIfInBounds_toArray, List.set_cons_zero, List.set_cons_succ])
          go_cut [44] (fun v44 wc => ∃ (kq : Nat) (x44_13 : Bool), v44 = .bool x44_13 ∧ Aside0 (frac_Compare.j1 kq a0 t117 t118 t120 t121 0 x44_13 = some (r1, r2)) ∧ Aside0 (kq ≤ kj4) ∧ Drawn0 w wc)
          case first =>
            have H := HC14.out
            clear HC14
            by_cases c15 : t117 < t120
            · rw [if_pos c15] at H
              have c15b0 : decide (t117 < t120) = true := decide_eq_true c15
              clear c15
              (first | rw [c15b0] | (simp only [i64_w, i32_w]; rw [c15b0]) | skip)
              have H' := Aside0.mk H
              clear H
              go_wp2
              go_meet
              case rel => exact ⟨_, (true), (by first | rfl | (simp; done) | (simp [*]; done)), H', ⟨by have := HJ4.out; first | omega | exact Nat.le_refl _⟩, by repeat (first | exact Drawn0.refl _ | apply Drawn0.step)⟩
            · rw [if_neg c15] at H
              have c15b0 : decide (t117 < t120) = false := decide_eq_false c15
              clear c15
              (first | rw [c15b0] | (simp only [i64_w, i32_w]; rw [c15b0]) | skip)
              by_cases c16 : t117 = t120
              · rw [if_pos c16] at H
                have c16b0 : (t117 == t120) = true := beq_iff_eq.mpr c16
                have c16b1 : (t117 != t120) = false := bne_eq_false_iff_eq.mpr c16
                clear c16
                have H' := Aside0.mk H
                clear H
                go_wp2
                go_meet
                case rel => exact ⟨_, (decide (t118 < t121)), (by first | rfl | (simp; done) | (simp [*]; done)), H', ⟨by have := HJ4.out; first | omega | exact Nat.le_refl _⟩, by repeat (first | exact Drawn0.refl _ | apply Drawn0.step)⟩
              · rw [if_neg c16] at H
                have c16b0 : (t117 == t120) = false := beq_eq_false_iff_ne.mpr c16
                have c16b1 : (t117 != t120) = true := bne_iff_ne.mpr c16
                have H' := Aside0.mk H
                clear H
                go_wp2
                go_meet
                case rel => exact ⟨_, (false), (by first | rfl | (simp; done) | (simp [*]; done)), H', ⟨by have := HJ4.out; first | omega | exact Nat.le_refl _⟩, by repeat (first | exact Drawn0.refl _ | apply Drawn0.step)⟩
          case rest =>
            clear HC14
            try clear c1
            try clear p2
            try clear c3
            try clear c4
            try clear c5
            try clear c6
            try clear c6b0
            try clear c7
            try clear c8
            try clear c8b0
            try clear c8b1
            try clear c8b2
            try clear c9
            try clear c9b0
            try clear c15
            try clear c15b0
            try clear c16
            try clear c16b0
            try clear c16b1
            try clear p2
            obtain ⟨kq, x44_13, rfl, HA, HJ13, ⟨mc13, rfl⟩⟩ := hcut
            cases kq with
            | zero => exact absurd HA.out (by simp [frac_Compare.j1])
            | succ kj13 =>
              have H := HA.out
              clear HA
              simp only [frac_Compare.j1] at H
              by_cases c17 : x44_13 = true
              · subst c17
                have H1 : (if a0 < 0 then (some (-(-1), 0)) else (some ((-1), 0))) = some (r1, r2) := by rw [if_pos rfl] at H; exact H
                clear H
                have H := H1
                clear H1
                by_cases c18 : a0 < 0
                · rw [if_pos c18] at H
                  have c18b0 : decide (a0 < 0) = true := decide_eq_true c18
                  (try (first | (have c18xc8 : (decide (a2 < 0)) = true := by have z := c8b0; rw [c18b0] at z; revert z; cases (decide (a2 < 0)) <;> decide) | (have c18xc8 : (decide (a2 < 0)) = false := by have z := c8b0; rw [c18b0] at z; revert z; cases (decide (a2 < 0)) <;> decide)))
                  clear c18
                  simp only [Option.some.injEq, Prod.mk.injEq] at H
                  obtain ⟨rfl, rfl⟩ := H
                  go_wp2
                  go_ret2
                  exact ⟨by first | rfl | (simp; done) | (simp [*]; done) | (simp; unfold wrap64; omega), by repeat (first | exact Drawn0.refl _ | apply Drawn0.step)⟩
                · rw [if_neg c18] at H
                  have c18b0 : decide (a0 < 0) = false := decide_eq_false c18
                  (try (first | (have c18xc8 : (decide (a2 < 0)) = true := by have z := c8b0; rw [c18b0] at z; revert z; cases (decide (a2 < 0)) <;> decide) | (have c18xc8 : (decide (a2 < 0)) = false := by have z := c8b0; rw [c18b0] at z; revert z; cases (decide (a2 < 0)) <;> decide)))
                  clear c18
                  simp only [Option.some.injEq, Prod.mk.injEq] at H
                  obtain ⟨rfl, rfl⟩ := H
                  go_wp2
                  go_ret2
                  exact ⟨by first | rfl | (simp; done) | (simp [*]; done) | (simp; unfold wrap64; omega), by repeat (first | exact Drawn0.refl _ | apply Drawn0.step)⟩
              · replace c17 := Bool.eq_false_iff.mpr c17
                subst c17
                have H1 : (if t117 > t120 then (frac_Compare.j2 kj13 a0 0 true) else (frac_Compare.j2 kj13 a0 0 (decide (t118 > t121)))) = some (r1, r2) := by rw [if_neg (show ¬ (false = true) by decide)] at H; exact H
                clear H
                have H := H1
                clear H1
                have HC19 := Aside0.mk H
                clear H
                go_upto_region 12 with (fail)
                go_cut [58] (fun v58 wc => ∃ (kq : Nat) (x58_18 : Bool), v58 = .bool x58_18 ∧ Aside0 (frac_Compare.j2 kq a0 0 x58_18 = some (r1, r2)) ∧ Aside0 (kq ≤ kj13) ∧ Drawn0 w wc)
                case first =>
                  have H := HC19.out
                  clear HC19
                  by_cases c20 : t117 > t120
                  · rw [if_pos c20] at H
                    have c20b0 : decide (t120 < t117) = true := decide_eq_true c20
                    clear c20
                    (first | rw [c20b0] | (simp only [i64_w, i32_w]; rw [c20b0]) | skip)
                    have H' := Aside0.mk H
                    clear H
                    go_wp2
                    go_meet
                    case rel => exact ⟨_, (true), (by first | rfl | (simp; done) | (simp [*]; done)), H', ⟨by have := HJ4.out; have := HJ13.out; first | omega | exact Nat.le_refl _⟩, by repeat (first | exact Drawn0.refl _ | apply Drawn0.step)⟩
                  · rw [if_neg c20] at H
                    have c20b0 : decide (t120 < t117) = false := decide_eq_false c20
                    clear c20
                    (first | rw [c20b0] | (simp only [i64_w, i32_w]; rw [c20b0]) | skip)
                    have H' := Aside0.mk H
                    clear H
                    go_wp2
                    go_meet
                    case rel => exact ⟨_, (decide (t118 > t121)), (by first | rfl | (simp; done) | (simp [*]; done)), H', ⟨by have := HJ4.out; have := HJ13.out; first | omega | exact Nat.le_refl _⟩, by repeat (first | exact Drawn0.refl _ | apply Drawn0.step)⟩
                case rest =>
                  clear HC19
                  try clear c1
                  try clear c2
                  try clear p2
                  try clear c3
                  try clear c4
                  try clear c5
                  try clear c6
                  try clear c6b0
                  try clear c7
                  try clear c8
                  try clear c8b0
                  try clear c8b1
                  try clear c8b2
                  try clear c9
                  try clear c9b0
                  try clear c13
                  try clear c15
                  try clear c15b0
                  try clear c16
                  try clear c16b0
                  try clear c16b1
                  try clear c17
                  try clear c18
                  try clear c18b0
                  try clear c20
                  try clear c20b0
                  try clear p2
                  obtain ⟨kq, x58_18, rfl, HA, HJ18, ⟨mc18, rfl⟩⟩ := hcut
                  cases kq with
                  | zero => exact absurd HA.out (by simp [frac_Compare.j2])
                  | succ kj18 =>
                    have H := HA.out
                    clear HA
                    simp only [frac_Compare.j2] at H
                    by_cases c21 : x58_18 = true
                    · subst c21
                      have H1 : (if a0 < 0 then (some (-1, 0)) else (some (1, 0))) = some (r1, r2) := by rw [if_pos rfl] at H; exact H
                      clear H
                      have H := H1
                      clear H1
                      by_cases c22 : a0 < 0
                      · rw [if_pos c22] at H
                        have c22b0 : decide (a0 < 0) = true := decide_eq_true c22
                        (try (first | (have c22xc8 : (decide (a2 < 0)) = true := by have z := c8b0; rw [c22b0] at z; revert z; cases (decide (a2 < 0)) <;> decide) | (have c22xc8 : (decide (a2 < 0)) = false := by have z := c8b0; rw [c22b0] at z; revert z; cases (decide (a2 < 0)) <;> decide)))
                        clear c22
                        simp only [Option.some.injEq, Prod.mk.injEq] at H
                        obtain ⟨rfl, rfl⟩ := H
                        go_wp2
                        go_ret2
                        exact ⟨by first | rfl | (simp; done) | (simp [*]; done) | (simp; unfold wrap64; omega), by repeat (first | exact Drawn0.refl _ | apply Drawn0.step)⟩
                      · rw [if_neg c22] at H
                        have c22b0 : decide (a0 < 0) = false := decide_eq_false c22
                        (try (first | (have c22xc8 : (decide (a2 < 0)) = true := by have z := c8b0; rw [c22b0] at z; revert z; cases (decide (a2 < 0)) <;> decide) | (have c22xc8 : (decide (a2 < 0)) = false := by have z := c8b0; rw [c22b0] at z; revert z; cases (decide (a2 < 0)) <;> decide)))
                        clear c22
                        simp only [Option.some.injEq, Prod.mk.injEq] at H
                        obtain ⟨rfl, rfl⟩ := H
                        go_wp2
                        go_ret2
                        exact ⟨by first | rfl | (simp; done) | (simp [*]; done) | (simp; unfold wrap64; omega), by repeat (first | exact Drawn0.refl _ | apply Drawn0.step)⟩
                    · replace c21 := Bool.eq_false_iff.mpr c21
                      subst c21
                      have H1 : (if a0 < 0 then (some (wrap64 (-0), 0)) else (some (0, 0))) = some (r1, r2) := by rw [if_neg (show ¬ (false = true) by decide)] at H; exact H
                      clear H
                      have H := H1
                      clear H1
                      by_cases c23 : a0 < 0
                      · rw [if_pos c23] at H
                        have c23b0 : decide (a0 < 0) = true := decide_eq_true c23
                        (try (first | (have c23xc8 : (decide (a2 < 0)) = true := by have z := c8b0; rw [c23b0] at z; revert z; cases (decide (a2 < 0)) <;> decide) | (have c23xc8 : (decide (a2 < 0)) = false := by have z := c8b0; rw [c23b0] at z; revert z; cases (decide (a2 < 0)) <;> decide)))
                        clear c23
                        simp only [Option.some.injEq, Prod.mk.injEq] at H
                        obtain ⟨rfl, rfl⟩ := H
                        go_wp2
                        go_ret2
                        exact ⟨by first | rfl | (simp; done) | (simp [*]; done) | (simp; unfold wrap64; omega), by repeat (first | exact Drawn0.refl _ | apply Drawn0.step)⟩
                      · rw [if_neg c23] at H
                        have c23b0 : decide (a0 < 0) = false := decide_eq_false c23
                        (try (first | (have c23xc8 : (decide (a2 < 0)) = true := by have z := c8b0; rw [c23b0] at z; revert z; cases (decide (a2 < 0)) <;> decide) | (have c23xc8 : (decide (a2 < 0)) = false := by have z := c8b0; rw [c23b0] at z; revert z; cases (decide (a2 < 0)) <;> decide)))
                        clear c23
                        simp only [Option.some.injEq, Prod.mk.injEq] at H
                        obtain ⟨rfl, rfl⟩ := H
                        go_wp2
                        go_ret2
                        exact ⟨by first | rfl | (simp; done) | (simp [*]; done) | (simp; unfold wrap64; omega), by repeat (first | exact Drawn0.refl _ | apply Drawn0.step)⟩

end Go.Proofs.Ytfiomckebicphaa.X
