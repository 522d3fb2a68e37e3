-- laid by the session's own program (xprint.py) out of Lean's print of the program; Lean checks it
import Derived.Test.YtfiomckebicphaaX0
import Derived.Test.YtfiomckebicphaaX2
import Derived.Test.YtfiomckebicphaaX4
namespace Go.Proofs.Ytfiomckebicphaa.X
open Go.RowKit Go.Proofs.YtfiomckebicphaaW.PrintWords Go.Proofs.YtfiomckebicphaaW.PrintLast Go.Proofs.YtfiomckebicphaaW.PrintMore
attribute [local go_sem] max2_int min2_int max_two min_two max_three min_three max_four min_four   -- for this text's walks alone
set_option linter.unusedVariables false
set_option linter.unusedSimpArgs false

/-! ### stipendlaw02_FracRounds: function 8 -/
mutual
def stipendlaw02_FracRounds.j0 : Nat → Int → Int → Int → Int → Int → Bool → Option (Bool)
  | 0, _, _, _, _, _, _ => none
  | k + 1, x0, x1, x2, x7, x8, x29 => if x29 = true then (if x8 = 1 then (some (x7 == 0)) else (some false)) else (if x8 = 0 then ((stipendlaw02_great.f x0).bind fun t155 => (if t155 = true then (stipendlaw02_FracRounds.j1 k x0 x1 x2 x7 true) else ((stipendlaw02_great.f x1).bind fun t156 => (stipendlaw02_FracRounds.j1 k x0 x1 x2 x7 t156)))) else (some false))
def stipendlaw02_FracRounds.j1 : Nat → Int → Int → Int → Int → Bool → Option (Bool)
  | 0, _, _, _, _, _ => none
  | k + 1, x0, x1, x2, x7, x43 => if x43 = true then (some true) else (if (wrap64 (x0 - (wrap64 (x7 * x1)))) ≤ (wrap64 (-x1)) then (stipendlaw02_FracRounds.j2 k x0 x1 x2 x7 (wrap64 (x0 - (wrap64 (x7 * x1)))) true) else (if (wrap64 (x0 - (wrap64 (x7 * x1)))) ≥ x1 then (stipendlaw02_FracRounds.j2 k x0 x1 x2 x7 (wrap64 (x0 - (wrap64 (x7 * x1)))) true) else (if (wrap64 (x0 - (wrap64 (x7 * x1)))) = 0 then (if x1 = 0 then (none) else (stipendlaw02_FracRounds.j2 k x0 x1 x2 x7 (wrap64 (x0 - (wrap64 (x7 * x1)))) ((Int.tmod x0 x1) != 0))) else (stipendlaw02_FracRounds.j2 k x0 x1 x2 x7 (wrap64 (x0 - (wrap64 (x7 * x1)))) false))))
def stipendlaw02_FracRounds.j2 : Nat → Int → Int → Int → Int → Int → Bool → Option (Bool)
  | 0, _, _, _, _, _, _ => none
  | k + 1, x0, x1, x2, x7, x9, x67 => if x67 = true then (some false) else (if x2 = 1 then (some (decide (x9 ≥ 0))) else (if x2 = 2 then (some (decide (x9 ≤ 0))) else (if x2 = 3 then (if x9 = 0 then (some true) else (some ((decide (x9 > 0)) == (decide (x0 > 0))))) else (if x2 = 4 then (if (wrap64 (2 * x9)) < x1 then (if (wrap64 (2 * x9)) > (wrap64 (-x1)) then (some true) else (if (wrap64 (2 * x9)) = x1 then (if x0 < 0 then (some true) else (if (wrap64 (2 * x9)) = (wrap64 (-x1)) then (some (decide (x0 > 0))) else (some false))) else (if (wrap64 (2 * x9)) = (wrap64 (-x1)) then (some (decide (x0 > 0))) else (some false)))) else (if (wrap64 (2 * x9)) = x1 then (if x0 < 0 then (some true) else (if (wrap64 (2 * x9)) = (wrap64 (-x1)) then (some (decide (x0 > 0))) else (some false))) else (if (wrap64 (2 * x9)) = (wrap64 (-x1)) then (some (decide (x0 > 0))) else (some false)))) else (if x2 = 6 then (if (wrap64 (2 * x9)) < x1 then (if (wrap64 (2 * x9)) > (wrap64 (-x1)) then (some true) else (if (wrap64 (2 * x9)) = x1 then (if x0 > 0 then (some true) else (if (wrap64 (2 * x9)) = (wrap64 (-x1)) then (some (decide (x0 < 0))) else (some false))) else (if (wrap64 (2 * x9)) = (wrap64 (-x1)) then (some (decide (x0 < 0))) else (some false)))) else (if (wrap64 (2 * x9)) = x1 then (if x0 > 0 then (some true) else (if (wrap64 (2 * x9)) = (wrap64 (-x1)) then (some (decide (x0 < 0))) else (some false))) else (if (wrap64 (2 * x9)) = (wrap64 (-x1)) then (some (decide (x0 < 0))) else (some false)))) else (if (wrap64 (2 * x9)) < x1 then (if (wrap64 (2 * x9)) > (wrap64 (-x1)) then (some true) else (if (wrap64 (2 * x9)) = x1 then (some ((Int.tmod x7 2) == 0)) else (if (wrap64 (2 * x9)) = (wrap64 (-x1)) then (some ((Int.tmod x7 2) == 0)) else (some false)))) else (if (wrap64 (2 * x9)) = x1 then (some ((Int.tmod x7 2) == 0)) else (if (wrap64 (2 * x9)) = (wrap64 (-x1)) then (some ((Int.tmod x7 2) == 0)) else (some false)))))))))
end
def stipendlaw02_FracRounds.f (k : Nat) (a0 : Int) (a1 : Int) (a2 : Int) : Option (Bool) := (stipendlaw02_parts.f k).bind fun t152 => (if t152 = true then ((frac_Round.f k a0 a1 a2).bind fun bt153 => (if a1 ≤ 0 then (stipendlaw02_FracRounds.j0 k a0 a1 a2 bt153.1 bt153.2 true) else (if a2 < 1 then (stipendlaw02_FracRounds.j0 k a0 a1 a2 bt153.1 bt153.2 true) else (stipendlaw02_FracRounds.j0 k a0 a1 a2 bt153.1 bt153.2 (decide (a2 > 6)))))) else (some false))
theorem stipendlaw02_FracRounds.mono_l : ∀ k, (∀ y0 y1 y2 y3 y4 y5, LeO (stipendlaw02_FracRounds.j0 k y0 y1 y2 y3 y4 y5) (stipendlaw02_FracRounds.j0 (k + 1) y0 y1 y2 y3 y4 y5)) ∧ (∀ y0 y1 y2 y3 y4, LeO (stipendlaw02_FracRounds.j1 k y0 y1 y2 y3 y4) (stipendlaw02_FracRounds.j1 (k + 1) y0 y1 y2 y3 y4)) ∧ (∀ y0 y1 y2 y3 y4 y5, LeO (stipendlaw02_FracRounds.j2 k y0 y1 y2 y3 y4 y5) (stipendlaw02_FracRounds.j2 (k + 1) y0 y1 y2 y3 y4 y5))
  | 0 => ⟨fun _ _ _ _ _ _ r h => by simp [stipendlaw02_FracRounds.j0] at h, fun _ _ _ _ _ r h => by simp [stipendlaw02_FracRounds.j1] at h, fun _ _ _ _ _ _ r h => by simp [stipendlaw02_FracRounds.j2] at h⟩
  | k + 1 => by
    obtain ⟨ih0, ih1, ih2⟩ := stipendlaw02_FracRounds.mono_l k
    refine ⟨?_, ?_, ?_⟩
    · intro y0 y1 y2 y3 y4 y5
      unfold stipendlaw02_FracRounds.j0
      repeat' first
      | (with_reducible exact ih0 _ _ _ _ _ _)
      | (with_reducible exact ih1 _ _ _ _ _)
      | (with_reducible exact ih2 _ _ _ _ _ _)
      | (with_reducible exact frac_Round.mono _ _ _ _)
      | (with_reducible exact stipendlaw02_parts.mono _)
      | (with_reducible exact LeO.refl _)
      | (with_reducible exact LeO.none _)
      | (with_reducible refine LeO.ite ?_ ?_)
      | (with_reducible refine LeO.bind ?_ (fun _ => ?_))
      | exact ih0 _ _ _ _ _ _
      | exact ih1 _ _ _ _ _
      | exact ih2 _ _ _ _ _ _
      | exact frac_Round.mono _ _ _ _
      | exact stipendlaw02_parts.mono _
      | exact LeO.none _
      | refine LeO.ite ?_ ?_
      | refine LeO.bind ?_ (fun _ => ?_)
    · intro y0 y1 y2 y3 y4
      unfold stipendlaw02_FracRounds.j1
      repeat' first
      | (with_reducible exact ih0 _ _ _ _ _ _)
      | (with_reducible exact ih1 _ _ _ _ _)
      | (with_reducible exact ih2 _ _ _ _ _ _)
      | (with_reducible exact frac_Round.mono _ _ _ _)
      | (with_reducible exact stipendlaw02_parts.mono _)
      | (with_reducible exact LeO.refl _)
      | (with_reducible exact LeO.none _)
      | (with_reducible refine LeO.ite ?_ ?_)
      | (with_reducible refine LeO.bind ?_ (fun _ => ?_))
      | exact ih0 _ _ _ _ _ _
      | exact ih1 _ _ _ _ _
      | exact ih2 _ _ _ _ _ _
      | exact frac_Round.mono _ _ _ _
      | exact stipendlaw02_parts.mono _
      | exact LeO.none _
      | refine LeO.ite ?_ ?_
      | refine LeO.bind ?_ (fun _ => ?_)
    · intro y0 y1 y2 y3 y4 y5
      unfold stipendlaw02_FracRounds.j2
      repeat' first
      | (with_reducible exact ih0 _ _ _ _ _ _)
      | (with_reducible exact ih1 _ _ _ _ _)
      | (with_reducible exact ih2 _ _ _ _ _ _)
      | (with_reducible exact frac_Round.mono _ _ _ _)
      | (with_reducible exact stipendlaw02_parts.mono _)
      | (with_reducible exact LeO.refl _)
      | (with_reducible exact LeO.none _)
      | (with_reducible refine LeO.ite ?_ ?_)
      | (with_reducible refine LeO.bind ?_ (fun _ => ?_))
      | exact ih0 _ _ _ _ _ _
      | exact ih1 _ _ _ _ _
      | exact ih2 _ _ _ _ _ _
      | exact frac_Round.mono _ _ _ _
      | exact stipendlaw02_parts.mono _
      | exact LeO.none _
      | refine LeO.ite ?_ ?_
      | refine LeO.bind ?_ (fun _ => ?_)
theorem stipendlaw02_FracRounds.mono : ∀ a0 a1 a2 k, LeO (stipendlaw02_FracRounds.f k a0 a1 a2) (stipendlaw02_FracRounds.f (k + 1) a0 a1 a2) := by
  intro a0 a1 a2 k
  obtain ⟨ih0, ih1, ih2⟩ := stipendlaw02_FracRounds.mono_l k
  unfold stipendlaw02_FracRounds.f
  repeat' first
      | (with_reducible exact ih0 _ _ _ _ _ _)
      | (with_reducible exact ih1 _ _ _ _ _)
      | (with_reducible exact ih2 _ _ _ _ _ _)
      | (with_reducible exact frac_Round.mono _ _ _ _)
      | (with_reducible exact stipendlaw02_parts.mono _)
      | (with_reducible exact LeO.refl _)
      | (with_reducible exact LeO.none _)
      | (with_reducible refine LeO.ite ?_ ?_)
      | (with_reducible refine LeO.bind ?_ (fun _ => ?_))
      | exact ih0 _ _ _ _ _ _
      | exact ih1 _ _ _ _ _
      | exact ih2 _ _ _ _ _ _
      | exact frac_Round.mono _ _ _ _
      | exact stipendlaw02_parts.mono _
      | exact LeO.none _
      | refine LeO.ite ?_ ?_
      | refine LeO.bind ?_ (fun _ => ?_)
set_option maxHeartbeats 8000000 in
set_option maxRecDepth 100000 in
theorem stipendlaw02_FracRounds.calls (k : Nat) (a0 : Int) (a1 : Int) (a2 : Int) (r : Bool) (w : World) (h : stipendlaw02_FracRounds.f k a0 a1 a2 = some r) :
    Calls Try.prog 8 #[.int .i64 a0, .int .i64 a1, .int .i64 a2] w fun e w' => e = .returned (.bool r) ∧ Below w.heap.size w w' := by
  have HB := Aside0.mk (Below.refl w.heap.size w)
  have H : ((stipendlaw02_parts.f k).bind fun t152 => (if t152 = true then ((frac_Round.f k a0 a1 a2).bind fun bt153 => (if a1 ≤ 0 then (stipendlaw02_FracRounds.j0 k a0 a1 a2 bt153.1 bt153.2 true) else (if a2 < 1 then (stipendlaw02_FracRounds.j0 k a0 a1 a2 bt153.1 bt153.2 true) else (stipendlaw02_FracRounds.j0 k a0 a1 a2 bt153.1 bt153.2 (decide (a2 > 6)))))) else (some false))) = some r := h
  clear h
  replace H := Option.bind_eq_some_iff.mp H
  obtain ⟨t152, A40, H⟩ := H
  replace H : (if t152 = true then ((frac_Round.f k a0 a1 a2).bind fun bt153 => (if a1 ≤ 0 then (stipendlaw02_FracRounds.j0 k a0 a1 a2 bt153.1 bt153.2 true) else (if a2 < 1 then (stipendlaw02_FracRounds.j0 k a0 a1 a2 bt153.1 bt153.2 true) else (stipendlaw02_FracRounds.j0 k a0 a1 a2 bt153.1 bt153.2 (decide (a2 > 6)))))) else (some false)) = some r := H
  have A4 := Aside0.mk A40
  clear A40
  by_cases c5 : t152 = true
  · subst c5
    have H1 : ((frac_Round.f k a0 a1 a2).bind fun bt153 => (if a1 ≤ 0 then (stipendlaw02_FracRounds.j0 k a0 a1 a2 bt153.1 bt153.2 true) else (if a2 < 1 then (stipendlaw02_FracRounds.j0 k a0 a1 a2 bt153.1 bt153.2 true) else (stipendlaw02_FracRounds.j0 k a0 a1 a2 bt153.1 bt153.2 (decide (a2 > 6)))))) = some r := by rw [if_pos rfl] at H; exact H
    clear H
    have H := H1
    clear H1
    replace H := Option.bind_eq_some_iff.mp H
    obtain ⟨⟨t153, t154⟩, A60, H⟩ := H
    replace H : (if a1 ≤ 0 then (stipendlaw02_FracRounds.j0 k a0 a1 a2 t153 t154 true) else (if a2 < 1 then (stipendlaw02_FracRounds.j0 k a0 a1 a2 t153 t154 true) else (stipendlaw02_FracRounds.j0 k a0 a1 a2 t153 t154 (decide (a2 > 6))))) = some r := H
    have A6 := Aside0.mk A60
    clear A60
    have HC7 := Aside0.mk H
    clear H
    go_enter Try.func8, Try.ntmps8
    go_upto_region 4 with (first | ((with_reducible refine gate_callee (f := 30) rfl ?_); refine goesL_ (some 11) rfl rfl Try.func30 (by kernel_rfl) rfl #[] rfl (by (try simp only [List.map_toArray, List.map_cons, List.map_nil]); first | done | rfl | (simp only [List.length_drop, List.length_take]; rfl)) ?_; (with_reducible refine (stipendlaw02_parts.calls k  true _ A4.out).mono ?_); rintro e w8 ⟨rfl, hb⟩; refine ⟨_, rfl, ?_⟩; have n0_ := Aside0.mk (below_step (by repeat (first | (with_reducible first | exact HB.out | apply below_alloc | apply pw_below_drewN | apply below_drew1) | exact HB.out)) hb); clear HB; have HB := n0_; clear n0_; (try clear hb); (try clear hb2); (try clear hk); (try clear hi)) | ((with_reducible refine gate_callee (f := 31) rfl ?_); refine goesL_ (some 17) rfl rfl Try.func31 (by kernel_rfl) rfl #[.int .i64 a0, .int .i64 a1, .int .i64 a2] rfl (by (try simp only [List.map_toArray, List.map_cons, List.map_nil]); first | done | rfl | (simp only [List.length_drop, List.length_take]; rfl)) ?_; (with_reducible refine (frac_Round.calls k a0 a1 a2 t153 t154 _ A6.out).mono ?_); rintro e w' ⟨rfl, ⟨nd, rfl⟩⟩; refine ⟨_, rfl, ?_⟩))
    (try simp only [Act.put, List.setIfInBounds_toArray, List.set_cons_zero, List.set_cons_succ])
    go_cut [29] (fun v29 wc => ∃ (kq : Nat) (x29_6 : Bool), v29 = .bool x29_6 ∧ Aside0 (stipendlaw02_FracRounds.j0 kq a0 a1 a2 t153 t154 x29_6 = some r) ∧ Aside0 (kq ≤ k) ∧ Aside0 (Below w.heap.size w wc))
    case first =>
      have H := HC7.out
      clear HC7
      by_cases c9 : a1 ≤ 0
      · rw [if_pos c9] at H
        have c9b0 : decide (a1 ≤ 0) = true := decide_eq_true c9
        clear c9
        (first | rw [c9b0] | (simp only [i64_w, i32_w]; rw [c9b0]) | skip)
        have H' := Aside0.mk H
        clear H
        go_wp2
        go_meet
        case rel => exact ⟨_, (true), (by first | rfl | (simp; done) | (simp [*]; done)), H', ⟨by first | omega | exact Nat.le_refl _⟩, ⟨by repeat (first | (with_reducible first | exact HB.out | apply below_alloc | apply pw_below_drewN | apply below_drew1) | exact HB.out)⟩⟩
      · rw [if_neg c9] at H
        have c9b0 : decide (a1 ≤ 0) = false := decide_eq_false c9
        clear c9
        (first | rw [c9b0] | (simp only [i64_w, i32_w]; rw [c9b0]) | skip)
        by_cases c10 : a2 < 1
        · rw [if_pos c10] at H
          have c10b0 : decide (a2 < 1) = true := decide_eq_true c10
          clear c10
          have H' := Aside0.mk H
          clear H
          go_wp2
          go_meet
          case rel => exact ⟨_, (true), (by first | rfl | (simp; done) | (simp [*]; done)), H', ⟨by first | omega | exact Nat.le_refl _⟩, ⟨by repeat (first | (with_reducible first | exact HB.out | apply below_alloc | apply pw_below_drewN | apply below_drew1) | exact HB.out)⟩⟩
        · rw [if_neg c10] at H
          have c10b0 : decide (a2 < 1) = false := decide_eq_false c10
          clear c10
          have H' := Aside0.mk H
          clear H
          go_wp2
          go_meet
          case rel => exact ⟨_, (decide (a2 > 6)), (by first | rfl | (simp; done) | (simp [*]; done)), H', ⟨by first | omega | exact Nat.le_refl _⟩, ⟨by repeat (first | (with_reducible first | exact HB.out | apply below_alloc | apply pw_below_drewN | apply below_drew1) | exact HB.out)⟩⟩
    case rest =>
      clear HC7
      try clear c1
      try clear p2
      try clear c3
      try clear c5
      try clear c8
      try clear c9
      try clear c9b0
      try clear c10
      try clear c10b0
      obtain ⟨kq, x29_6, rfl, HA, HJ6, HB⟩ := hcut
      cases kq with
      | zero => exact absurd HA.out (by simp [stipendlaw02_FracRounds.j0])
      | succ kj6 =>
        have H := HA.out
        clear HA
        simp only [stipendlaw02_FracRounds.j0] at H
        by_cases c11 : x29_6 = true
        · subst c11
          have H1 : (if t154 = 1 then (some (t153 == 0)) else (some false)) = some r := by rw [if_pos rfl] at H; exact H
          clear H
          have H := H1
          clear H1
          by_cases c12 : t154 = 1
          · rw [if_pos c12] at H
            have c12b0 : (t154 == 1) = true := beq_iff_eq.mpr c12
            have c12b1 : (t154 != 1) = false := bne_eq_false_iff_eq.mpr c12
            clear c12
            obtain rfl := Option.some.inj H
            go_wp2
            go_ret
            exact ⟨by first | rfl | (simp [errW_none, errW_some] <;> rfl) | (simp [*, errW_none, errW_some] <;> rfl), by repeat (first | (with_reducible first | exact HB.out | apply below_alloc | apply pw_below_drewN | apply below_drew1) | exact HB.out)⟩
          · rw [if_neg c12] at H
            have c12b0 : (t154 == 1) = false := beq_eq_false_iff_ne.mpr c12
            have c12b1 : (t154 != 1) = true := bne_iff_ne.mpr c12
            obtain rfl := Option.some.inj H
            go_wp2
            go_ret
            exact ⟨by first | rfl | (simp [errW_none, errW_some] <;> rfl) | (simp [*, errW_none, errW_some] <;> rfl), by repeat (first | (with_reducible first | exact HB.out | apply below_alloc | apply pw_below_drewN | apply below_drew1) | exact HB.out)⟩
        · replace c11 := Bool.eq_false_iff.mpr c11
          subst c11
          have H1 : (if t154 = 0 then ((stipendlaw02_great.f a0).bind fun t155 => (if t155 = true then (stipendlaw02_FracRounds.j1 kj6 a0 a1 a2 t153 true) else ((stipendlaw02_great.f a1).bind fun t156 => (stipendlaw02_FracRounds.j1 kj6 a0 a1 a2 t153 t156)))) else (some false)) = some r := by rw [if_neg (show ¬ (false = true) by decide)] at H; exact H
          clear H
          have H := H1
          clear H1
          by_cases c13 : t154 = 0
          · rw [if_pos c13] at H
            have c13b0 : (t154 == 0) = true := beq_iff_eq.mpr c13
            have c13b1 : (t154 != 0) = false := bne_eq_false_iff_eq.mpr c13
            clear c13
            have HC14 := Aside0.mk H
            clear H
            go_upto_region 8 with (fail)
            go_cut [43] (fun v43 wc => ∃ (kq : Nat) (x43_13 : Bool), v43 = .bool x43_13 ∧ Aside0 (stipendlaw02_FracRounds.j1 kq a0 a1 a2 t153 x43_13 = some r) ∧ Aside0 (kq ≤ kj6) ∧ Aside0 (Below w.heap.size w wc))
            case first =>
              have H := HC14.out
              clear HC14
              replace H := Option.bind_eq_some_iff.mp H
              obtain ⟨t155, A150, H⟩ := H
              replace H : (if t155 = true then (stipendlaw02_FracRounds.j1 kj6 a0 a1 a2 t153 true) else ((stipendlaw02_great.f a1).bind fun t156 => (stipendlaw02_FracRounds.j1 kj6 a0 a1 a2 t153 t156))) = some r := H
              have A15 := Aside0.mk A150
              clear A150
              by_cases c16 : t155 = true
              · subst c16
                have H1 : (stipendlaw02_FracRounds.j1 kj6 a0 a1 a2 t153 true) = some r := by rw [if_pos rfl] at H; exact H
                clear H
                have H := H1
                clear H1
                have H' := Aside0.mk H
                clear H
                go_wp2_with (first | ((with_reducible refine gate_callee (f := 32) rfl ?_); refine goesL_ (some 39) rfl rfl Try.func32 (by kernel_rfl) rfl #[.int .i64 a0] rfl (by (try simp only [List.map_toArray, List.map_cons, List.map_nil]); first | done | rfl | (simp only [List.length_drop, List.length_take]; rfl)) ?_; (with_reducible refine (stipendlaw02_great.calls a0 true _ A15.out).mono ?_); rintro e w' ⟨rfl, ⟨nd, rfl⟩⟩; refine ⟨_, rfl, ?_⟩))
                go_meet
                case rel => exact ⟨_, (true), (by first | rfl | (simp; done) | (simp [*]; done)), H', ⟨by have := HJ6.out; first | omega | exact Nat.le_refl _⟩, ⟨by repeat (first | (with_reducible first | exact HB.out | apply below_alloc | apply pw_below_drewN | apply below_drew1) | exact HB.out)⟩⟩
              · replace c16 := Bool.eq_false_iff.mpr c16
                subst c16
                have H1 : ((stipendlaw02_great.f a1).bind fun t156 => (stipendlaw02_FracRounds.j1 kj6 a0 a1 a2 t153 t156)) = some r := by rw [if_neg (show ¬ (false = true) by decide)] at H; exact H
                clear H
                have H := H1
                clear H1
                replace H := Option.bind_eq_some_iff.mp H
                obtain ⟨t156, A170, H⟩ := H
                replace H : (stipendlaw02_FracRounds.j1 kj6 a0 a1 a2 t153 t156) = some r := H
                have A17 := Aside0.mk A170
                clear A170
                have H' := Aside0.mk H
                clear H
                go_wp2_with (first | ((with_reducible refine gate_callee (f := 32) rfl ?_); refine goesL_ (some 39) rfl rfl Try.func32 (by kernel_rfl) rfl #[.int .i64 a0] rfl (by (try simp only [List.map_toArray, List.map_cons, List.map_nil]); first | done | rfl | (simp only [List.length_drop, List.length_take]; rfl)) ?_; (with_reducible refine (stipendlaw02_great.calls a0 false _ A15.out).mono ?_); rintro e w' ⟨rfl, ⟨nd, rfl⟩⟩; refine ⟨_, rfl, ?_⟩) | (go_at_call 32; (with_reducible refine (stipendlaw02_great.calls a1 t156 _ A17.out).mono ?_); rintro e w' ⟨rfl, ⟨nd, rfl⟩⟩))
                go_meet
                case rel => exact ⟨_, (t156), (by first | rfl | (simp; done) | (simp [*]; done)), H', ⟨by have := HJ6.out; first | omega | exact Nat.le_refl _⟩, ⟨by repeat (first | (with_reducible first | exact HB.out | apply below_alloc | apply pw_below_drewN | apply below_drew1) | exact HB.out)⟩⟩
            case rest =>
              clear HC14
              try clear c1
              try clear p2
              try clear c3
              try clear c5
              try clear c8
              try clear c9
              try clear c9b0
              try clear c10
              try clear c10b0
              try clear c11
              try clear c12
              try clear c12b0
              try clear c12b1
              try clear c13
              try clear c13b0
              try clear c13b1
              try clear c16
              try clear p2
              obtain ⟨kq, x43_13, rfl, HA, HJ13, HB⟩ := hcut
              cases kq with
              | zero => exact absurd HA.out (by simp [stipendlaw02_FracRounds.j1])
              | succ kj13 =>
                have H := HA.out
                clear HA
                simp only [stipendlaw02_FracRounds.j1] at H
                by_cases c18 : x43_13 = true
                · subst c18
                  have H1 : (some true) = some r := by rw [if_pos rfl] at H; exact H
                  clear H
                  have H := H1
                  clear H1
                  obtain rfl := Option.some.inj H
                  go_wp2
                  go_ret
                  exact ⟨by first | rfl | (simp [errW_none, errW_some] <;> rfl) | (simp [*, errW_none, errW_some] <;> rfl), by repeat (first | (with_reducible first | exact HB.out | apply below_alloc | apply pw_below_drewN | apply below_drew1) | exact HB.out)⟩
                · replace c18 := Bool.eq_false_iff.mpr c18
                  subst c18
                  have H1 : (if (wrap64 (a0 - (wrap64 (t153 * a1)))) ≤ (wrap64 (-a1)) then (stipendlaw02_FracRounds.j2 kj13 a0 a1 a2 t153 (wrap64 (a0 - (wrap64 (t153 * a1)))) true) else (if (wrap64 (a0 - (wrap64 (t153 * a1)))) ≥ a1 then (stipendlaw02_FracRounds.j2 kj13 a0 a1 a2 t153 (wrap64 (a0 - (wrap64 (t153 * a1)))) true) else (if (wrap64 (a0 - (wrap64 (t153 * a1)))) = 0 then (if a1 = 0 then (none) else (stipendlaw02_FracRounds.j2 kj13 a0 a1 a2 t153 (wrap64 (a0 - (wrap64 (t153 * a1)))) ((Int.tmod a0 a1) != 0))) else (stipendlaw02_FracRounds.j2 kj13 a0 a1 a2 t153 (wrap64 (a0 - (wrap64 (t153 * a1)))) false)))) = some r := by rw [if_neg (show ¬ (false = true) by decide)] at H; exact H
                  clear H
                  have H := H1
                  clear H1
                  have HC19 := Aside0.mk H
                  clear H
                  go_upto_region 11 with (fail)
                  go_cut [67] (fun v67 wc => ∃ (kq : Nat) (x67_18 : Bool), v67 = .bool x67_18 ∧ Aside0 (stipendlaw02_FracRounds.j2 kq a0 a1 a2 t153 (wrap64 (a0 - (wrap64 (t153 * a1)))) x67_18 = some r) ∧ Aside0 (kq ≤ kj13) ∧ Aside0 (Below w.heap.size w wc))
                  case first =>
                    have H := HC19.out
                    clear HC19
                    by_cases c20 : (wrap64 (a0 - (wrap64 (t153 * a1)))) ≤ (wrap64 (-a1))
                    · rw [if_pos c20] at H
                      have c20b0 : decide ((wrap64 (a0 - (wrap64 (t153 * a1)))) ≤ (wrap64 (-a1))) = true := decide_eq_true c20
                      clear c20
                      (first | rw [c20b0] | (simp only [i64_w, i32_w]; rw [c20b0]) | skip)
                      have H' := Aside0.mk H
                      clear H
                      go_wp2
                      go_meet
                      case rel => exact ⟨_, (true), (by first | rfl | (simp; done) | (simp [*]; done)), H', ⟨by have := HJ6.out; have := HJ13.out; first | omega | exact Nat.le_refl _⟩, ⟨by repeat (first | (with_reducible first | exact HB.out | apply below_alloc | apply pw_below_drewN | apply below_drew1) | exact HB.out)⟩⟩
                    · rw [if_neg c20] at H
                      have c20b0 : decide ((wrap64 (a0 - (wrap64 (t153 * a1)))) ≤ (wrap64 (-a1))) = false := decide_eq_false c20
                      clear c20
                      (first | rw [c20b0] | (simp only [i64_w, i32_w]; rw [c20b0]) | skip)
                      by_cases c21 : (wrap64 (a0 - (wrap64 (t153 * a1)))) ≥ a1
                      · rw [if_pos c21] at H
                        have c21b0 : decide (a1 ≤ (wrap64 (a0 - (wrap64 (t153 * a1))))) = true := decide_eq_true c21
                        clear c21
                        have H' := Aside0.mk H
                        clear H
                        go_wp2
                        go_meet
                        case rel => exact ⟨_, (true), (by first | rfl | (simp; done) | (simp [*]; done)), H', ⟨by have := HJ6.out; have := HJ13.out; first | omega | exact Nat.le_refl _⟩, ⟨by repeat (first | (with_reducible first | exact HB.out | apply below_alloc | apply pw_below_drewN | apply below_drew1) | exact HB.out)⟩⟩
                      · rw [if_neg c21] at H
                        have c21b0 : decide (a1 ≤ (wrap64 (a0 - (wrap64 (t153 * a1))))) = false := decide_eq_false c21
                        clear c21
                        by_cases c22 : (wrap64 (a0 - (wrap64 (t153 * a1)))) = 0
                        · rw [if_pos c22] at H
                          have c22b0 : ((wrap64 (a0 - (wrap64 (t153 * a1)))) == 0) = true := beq_iff_eq.mpr c22
                          have c22b1 : ((wrap64 (a0 - (wrap64 (t153 * a1)))) != 0) = false := bne_eq_false_iff_eq.mpr c22
                          clear c22
                          by_cases c23 : a1 = 0
                          · rw [if_pos c23] at H
                            exact absurd H (by simp)
                          · rw [if_neg c23] at H
                            have c23b0 : (a1 == 0) = false := beq_eq_false_iff_ne.mpr c23
                            have c23b1 : (a1 != 0) = true := bne_iff_ne.mpr c23
                            have H' := Aside0.mk H
                            clear H
                            go_wp2
                            go_meet
                            case rel => exact ⟨_, (((Int.tmod a0 a1) != 0)), (by first | rfl | (simp; done) | (simp [*]; done)), H', ⟨by have := HJ6.out; have := HJ13.out; first | omega | exact Nat.le_refl _⟩, ⟨by repeat (first | (with_reducible first | exact HB.out | apply below_alloc | apply pw_below_drewN | apply below_drew1) | exact HB.out)⟩⟩
                        · rw [if_neg c22] at H
                          have c22b0 : ((wrap64 (a0 - (wrap64 (t153 * a1)))) == 0) = false := beq_eq_false_iff_ne.mpr c22
                          have c22b1 : ((wrap64 (a0 - (wrap64 (t153 * a1)))) != 0) = true := bne_iff_ne.mpr c22
                          have H' := Aside0.mk H
                          clear H
                          go_wp2
                          go_meet
                          case rel => exact ⟨_, (false), (by first | rfl | (simp; done) | (simp [*]; done)), H', ⟨by have := HJ6.out; have := HJ13.out; first | omega | exact Nat.le_refl _⟩, ⟨by repeat (first | (with_reducible first | exact HB.out | apply below_alloc | apply pw_below_drewN | apply below_drew1) | exact HB.out)⟩⟩
                  case rest =>
                    clear HC19
                    try clear c1
                    try clear c2
                    try clear p2
                    try clear c3
                    try clear c5
                    try clear p6
                    try clear c8
                    try clear c9
                    try clear c9b0
                    try clear c10
                    try clear c10b0
                    try clear c11
                    try clear c12
                    try clear c12b0
                    try clear c12b1
                    try clear c13
                    try clear c13b0
                    try clear c13b1
                    try clear c16
                    try clear c18
                    try clear c20
                    try clear c20b0
                    try clear c21
                    try clear c21b0
                    try clear c22
                    try clear c22b0
                    try clear c22b1
                    try clear c23
                    try clear c23b0
                    try clear c23b1
                    try clear p2
                    obtain ⟨kq, x67_18, rfl, HA, HJ18, HB⟩ := hcut
                    cases kq with
                    | zero => exact absurd HA.out (by simp [stipendlaw02_FracRounds.j2])
                    | succ kj18 =>
                      have H := HA.out
                      clear HA
                      simp only [stipendlaw02_FracRounds.j2] at H
                      by_cases c24 : x67_18 = true
                      · subst c24
                        have H1 : (some false) = some r := by rw [if_pos rfl] at H; exact H
                        clear H
                        have H := H1
                        clear H1
                        obtain rfl := Option.some.inj H
                        go_wp2
                        go_ret
                        exact ⟨by first | rfl | (simp [errW_none, errW_some] <;> rfl) | (simp [*, errW_none, errW_some] <;> rfl), by repeat (first | (with_reducible first | exact HB.out | apply below_alloc | apply pw_below_drewN | apply below_drew1) | exact HB.out)⟩
                      · replace c24 := Bool.eq_false_iff.mpr c24
                        subst c24
                        have H1 : (if a2 = 1 then (some (decide ((wrap64 (a0 - (wrap64 (t153 * a1)))) ≥ 0))) else (if a2 = 2 then (some (decide ((wrap64 (a0 - (wrap64 (t153 * a1)))) ≤ 0))) else (if a2 = 3 then (if (wrap64 (a0 - (wrap64 (t153 * a1)))) = 0 then (some true) else (some ((decide ((wrap64 (a0 - (wrap64 (t153 * a1)))) > 0)) == (decide (a0 > 0))))) else (if a2 = 4 then (if (wrap64 (2 * (wrap64 (a0 - (wrap64 (t153 * a1)))))) < a1 then (if (wrap64 (2 * (wrap64 (a0 - (wrap64 (t153 * a1)))))) > (wrap64 (-a1)) then (some true) else (if (wrap64 (2 * (wrap64 (a0 - (wrap64 (t153 * a1)))))) = a1 then (if a0 < 0 then (some true) else (if (wrap64 (2 * (wrap64 (a0 - (wrap64 (t153 * a1)))))) = (wrap64 (-a1)) then (some (decide (a0 > 0))) else (some false))) else (if (wrap64 (2 * (wrap64 (a0 - (wrap64 (t153 * a1)))))) = (wrap64 (-a1)) then (some (decide (a0 > 0))) else (some false)))) else (if (wrap64 (2 * (wrap64 (a0 - (wrap64 (t153 * a1)))))) = a1 then (if a0 < 0 then (some true) else (if (wrap64 (2 * (wrap64 (a0 - (wrap64 (t153 * a1)))))) = (wrap64 (-a1)) then (some (decide (a0 > 0))) else (some false))) else (if (wrap64 (2 * (wrap64 (a0 - (wrap64 (t153 * a1)))))) = (wrap64 (-a1)) then (some (decide (a0 > 0))) else (some false)))) else (if a2 = 6 then (if (wrap64 (2 * (wrap64 (a0 - (wrap64 (t153 * a1)))))) < a1 then (if (wrap64 (2 * (wrap64 (a0 - (wrap64 (t153 * a1)))))) > (wrap64 (-a1)) then (some true) else (if (wrap64 (2 * (wrap64 (a0 - (wrap64 (t153 * a1)))))) = a1 then (if a0 > 0 then (some true) else (if (wrap64 (2 * (wrap64 (a0 - (wrap64 (t153 * a1)))))) = (wrap64 (-a1)) then (some (decide (a0 < 0))) else (some false))) else (if (wrap64 (2 * (wrap64 (a0 - (wrap64 (t153 * a1)))))) = (wrap64 (-a1)) then (some (decide (a0 < 0))) else (some false)))) else (if (wrap64 (2 * (wrap64 (a0 - (wrap64 (t153 * a1)))))) = a1 then (if a0 > 0 then (some true) else (if (wrap64 (2 * (wrap64 (a0 - (wrap64 (t153 * a1)))))) = (wrap64 (-a1)) then (some (decide (a0 < 0))) else (some false))) else (if (wrap64 (2 * (wrap64 (a0 - (wrap64 (t153 * a1)))))) = (wrap64 (-a1)) then (some (decide (a0 < 0))) else (some false)))) else (if (wrap64 (2 * (wrap64 (a0 - (wrap64 (t153 * a1)))))) < a1 then (if (wrap64 (2 * (wrap64 (a0 - (wrap64 (t153 * a1)))))) > (wrap64 (-a1)) then (some true) else (if (wrap64 (2 * (wrap64 (a0 - (wrap64 (t153 * a1)))))) = a1 then (some ((Int.tmod t153 2) == 0)) else (if (wrap64 (2 * (wrap64 (a0 - (wrap64 (t153 * a1)))))) = (wrap64 (-a1)) then (some ((Int.tmod t153 2) == 0)) else (some false)))) else (if (wrap64 (2 * (wrap64 (a0 - (wrap64 (t153 * a1)))))) = a1 then (some ((Int.tmod t153 2) == 0)) else (if (wrap64 (2 * (wrap64 (a0 - (wrap64 (t153 * a1)))))) = (wrap64 (-a1)) then (some ((Int.tmod t153 2) == 0)) else (some false))))))))) = some r := by rw [if_neg (show ¬ (false = true) by decide)] at H; exact H
                        clear H
                        have H := H1
                        clear H1
                        by_cases c25 : a2 = 1
                        · rw [if_pos c25] at H
                          have c25b0 : (a2 == 1) = true := beq_iff_eq.mpr c25
                          have c25b1 : (a2 != 1) = false := bne_eq_false_iff_eq.mpr c25
                          clear c25
                          obtain rfl := Option.some.inj H
                          go_wp2
                          go_ret
                          exact ⟨by first | rfl | (simp [errW_none, errW_some] <;> rfl) | (simp [*, errW_none, errW_some] <;> rfl), by repeat (first | (with_reducible first | exact HB.out | apply below_alloc | apply pw_below_drewN | apply below_drew1) | exact HB.out)⟩
                        · rw [if_neg c25] at H
                          have c25b0 : (a2 == 1) = false := beq_eq_false_iff_ne.mpr c25
                          have c25b1 : (a2 != 1) = true := bne_iff_ne.mpr c25
                          by_cases c26 : a2 = 2
                          · rw [if_pos c26] at H
                            have c26b0 : (a2 == 2) = true := beq_iff_eq.mpr c26
                            have c26b1 : (a2 != 2) = false := bne_eq_false_iff_eq.mpr c26
                            clear c26
                            obtain rfl := Option.some.inj H
                            go_wp2
                            go_ret
                            exact ⟨by first | rfl | (simp [errW_none, errW_some] <;> rfl) | (simp [*, errW_none, errW_some] <;> rfl), by repeat (first | (with_reducible first | exact HB.out | apply below_alloc | apply pw_below_drewN | apply below_drew1) | exact HB.out)⟩
                          · rw [if_neg c26] at H
                            have c26b0 : (a2 == 2) = false := beq_eq_false_iff_ne.mpr c26
                            have c26b1 : (a2 != 2) = true := bne_iff_ne.mpr c26
                            by_cases c27 : a2 = 3
                            · rw [if_pos c27] at H
                              have c27b0 : (a2 == 3) = true := beq_iff_eq.mpr c27
                              have c27b1 : (a2 != 3) = false := bne_eq_false_iff_eq.mpr c27
                              clear c27
                              by_cases c28 : (wrap64 (a0 - (wrap64 (t153 * a1)))) = 0
                              · rw [if_pos c28] at H
                                have c28b0 : ((wrap64 (a0 - (wrap64 (t153 * a1)))) == 0) = true := beq_iff_eq.mpr c28
                                have c28b1 : ((wrap64 (a0 - (wrap64 (t153 * a1)))) != 0) = false := bne_eq_false_iff_eq.mpr c28
                                clear c28
                                obtain rfl := Option.some.inj H
                                go_wp2
                                go_ret
                                exact ⟨by first | rfl | (simp [errW_none, errW_some] <;> rfl) | (simp [*, errW_none, errW_some] <;> rfl), by repeat (first | (with_reducible first | exact HB.out | apply below_alloc | apply pw_below_drewN | apply below_drew1) | exact HB.out)⟩
                              · rw [if_neg c28] at H
                                have c28b0 : ((wrap64 (a0 - (wrap64 (t153 * a1)))) == 0) = false := beq_eq_false_iff_ne.mpr c28
                                have c28b1 : ((wrap64 (a0 - (wrap64 (t153 * a1)))) != 0) = true := bne_iff_ne.mpr c28
                                obtain rfl := Option.some.inj H
                                go_wp2
                                go_ret
                                exact ⟨by first | rfl | (simp [errW_none, errW_some] <;> rfl) | (simp [*, errW_none, errW_some] <;> rfl), by repeat (first | (with_reducible first | exact HB.out | apply below_alloc | apply pw_below_drewN | apply below_drew1) | exact HB.out)⟩
                            · rw [if_neg c27] at H
                              have c27b0 : (a2 == 3) = false := beq_eq_false_iff_ne.mpr c27
                              have c27b1 : (a2 != 3) = true := bne_iff_ne.mpr c27
                              by_cases c29 : a2 = 4
                              · rw [if_pos c29] at H
                                have c29b0 : (a2 == 4) = true := beq_iff_eq.mpr c29
                                have c29b1 : (a2 != 4) = false := bne_eq_false_iff_eq.mpr c29
                                clear c29
                                by_cases c30 : (wrap64 (2 * (wrap64 (a0 - (wrap64 (t153 * a1)))))) < a1
                                · rw [if_pos c30] at H
                                  have c30b0 : decide ((wrap64 (2 * (wrap64 (a0 - (wrap64 (t153 * a1)))))) < a1) = true := decide_eq_true c30
                                  clear c30
                                  by_cases c31 : (wrap64 (2 * (wrap64 (a0 - (wrap64 (t153 * a1)))))) > (wrap64 (-a1))
                                  · rw [if_pos c31] at H
                                    have c31b0 : decide ((wrap64 (-a1)) < (wrap64 (2 * (wrap64 (a0 - (wrap64 (t153 * a1))))))) = true := decide_eq_true c31
                                    clear c31
                                    obtain rfl := Option.some.inj H
                                    go_wp2
                                    go_ret
                                    exact ⟨by first | rfl | (simp [errW_none, errW_some] <;> rfl) | (simp [*, errW_none, errW_some] <;> rfl), by repeat (first | (with_reducible first | exact HB.out | apply below_alloc | apply pw_below_drewN | apply below_drew1) | exact HB.out)⟩
                                  · rw [if_neg c31] at H
                                    have c31b0 : decide ((wrap64 (-a1)) < (wrap64 (2 * (wrap64 (a0 - (wrap64 (t153 * a1))))))) = false := decide_eq_false c31
                                    clear c31
                                    by_cases c32 : (wrap64 (2 * (wrap64 (a0 - (wrap64 (t153 * a1)))))) = a1
                                    · rw [if_pos c32] at H
                                      have c32b0 : ((wrap64 (2 * (wrap64 (a0 - (wrap64 (t153 * a1)))))) == a1) = true := beq_iff_eq.mpr c32
                                      have c32b1 : ((wrap64 (2 * (wrap64 (a0 - (wrap64 (t153 * a1)))))) != a1) = false := bne_eq_false_iff_eq.mpr c32
                                      clear c32
                                      by_cases c33 : a0 < 0
                                      · rw [if_pos c33] at H
                                        have c33b0 : decide (a0 < 0) = true := decide_eq_true c33
                                        clear c33
                                        obtain rfl := Option.some.inj H
                                        go_wp2
                                        go_ret
                                        exact ⟨by first | rfl | (simp [errW_none, errW_some] <;> rfl) | (simp [*, errW_none, errW_some] <;> rfl), by repeat (first | (with_reducible first | exact HB.out | apply below_alloc | apply pw_below_drewN | apply below_drew1) | exact HB.out)⟩
                                      · rw [if_neg c33] at H
                                        have c33b0 : decide (a0 < 0) = false := decide_eq_false c33
                                        clear c33
                                        by_cases c34 : (wrap64 (2 * (wrap64 (a0 - (wrap64 (t153 * a1)))))) = (wrap64 (-a1))
                                        · rw [if_pos c34] at H
                                          have c34b0 : ((wrap64 (2 * (wrap64 (a0 - (wrap64 (t153 * a1)))))) == (wrap64 (-a1))) = true := beq_iff_eq.mpr c34
                                          have c34b1 : ((wrap64 (2 * (wrap64 (a0 - (wrap64 (t153 * a1)))))) != (wrap64 (-a1))) = false := bne_eq_false_iff_eq.mpr c34
                                          clear c34
                                          obtain rfl := Option.some.inj H
                                          go_wp2
                                          go_ret
                                          exact ⟨by first | rfl | (simp [errW_none, errW_some] <;> rfl) | (simp [*, errW_none, errW_some] <;> rfl), by repeat (first | (with_reducible first | exact HB.out | apply below_alloc | apply pw_below_drewN | apply below_drew1) | exact HB.out)⟩
                                        · rw [if_neg c34] at H
                                          have c34b0 : ((wrap64 (2 * (wrap64 (a0 - (wrap64 (t153 * a1)))))) == (wrap64 (-a1))) = false := beq_eq_false_iff_ne.mpr c34
                                          have c34b1 : ((wrap64 (2 * (wrap64 (a0 - (wrap64 (t153 * a1)))))) != (wrap64 (-a1))) = true := bne_iff_ne.mpr c34
                                          obtain rfl := Option.some.inj H
                                          go_wp2
                                          go_ret
                                          exact ⟨by first | rfl | (simp [errW_none, errW_some] <;> rfl) | (simp [*, errW_none, errW_some] <;> rfl), by repeat (first | (with_reducible first | exact HB.out | apply below_alloc | apply pw_below_drewN | apply below_drew1) | exact HB.out)⟩
                                    · rw [if_neg c32] at H
                                      have c32b0 : ((wrap64 (2 * (wrap64 (a0 - (wrap64 (t153 * a1)))))) == a1) = false := beq_eq_false_iff_ne.mpr c32
                                      have c32b1 : ((wrap64 (2 * (wrap64 (a0 - (wrap64 (t153 * a1)))))) != a1) = true := bne_iff_ne.mpr c32
                                      by_cases c35 : (wrap64 (2 * (wrap64 (a0 - (wrap64 (t153 * a1)))))) = (wrap64 (-a1))
                                      · rw [if_pos c35] at H
                                        have c35b0 : ((wrap64 (2 * (wrap64 (a0 - (wrap64 (t153 * a1)))))) == (wrap64 (-a1))) = true := beq_iff_eq.mpr c35
                                        have c35b1 : ((wrap64 (2 * (wrap64 (a0 - (wrap64 (t153 * a1)))))) != (wrap64 (-a1))) = false := bne_eq_false_iff_eq.mpr c35
                                        clear c35
                                        obtain rfl := Option.some.inj H
                                        go_wp2
                                        go_ret
                                        exact ⟨by first | rfl | (simp [errW_none, errW_some] <;> rfl) | (simp [*, errW_none, errW_some] <;> rfl), by repeat (first | (with_reducible first | exact HB.out | apply below_alloc | apply pw_below_drewN | apply below_drew1) | exact HB.out)⟩
                                      · rw [if_neg c35] at H
                                        have c35b0 : ((wrap64 (2 * (wrap64 (a0 - (wrap64 (t153 * a1)))))) == (wrap64 (-a1))) = false := beq_eq_false_iff_ne.mpr c35
                                        have c35b1 : ((wrap64 (2 * (wrap64 (a0 - (wrap64 (t153 * a1)))))) != (wrap64 (-a1))) = true := bne_iff_ne.mpr c35
                                        obtain rfl := Option.some.inj H
                                        go_wp2
                                        go_ret
                                        exact ⟨by first | rfl | (simp [errW_none, errW_some] <;> rfl) | (simp [*, errW_none, errW_some] <;> rfl), by repeat (first | (with_reducible first | exact HB.out | apply below_alloc | apply pw_below_drewN | apply below_drew1) | exact HB.out)⟩
                                · rw [if_neg c30] at H
                                  have c30b0 : decide ((wrap64 (2 * (wrap64 (a0 - (wrap64 (t153 * a1)))))) < a1) = false := decide_eq_false c30
                                  clear c30
                                  by_cases c36 : (wrap64 (2 * (wrap64 (a0 - (wrap64 (t153 * a1)))))) = a1
                                  · rw [if_pos c36] at H
                                    have c36b0 : ((wrap64 (2 * (wrap64 (a0 - (wrap64 (t153 * a1)))))) == a1) = true := beq_iff_eq.mpr c36
                                    have c36b1 : ((wrap64 (2 * (wrap64 (a0 - (wrap64 (t153 * a1)))))) != a1) = false := bne_eq_false_iff_eq.mpr c36
                                    clear c36
                                    by_cases c37 : a0 < 0
                                    · rw [if_pos c37] at H
                                      have c37b0 : decide (a0 < 0) = true := decide_eq_true c37
                                      clear c37
                                      obtain rfl := Option.some.inj H
                                      go_wp2
                                      go_ret
                                      exact ⟨by first | rfl | (simp [errW_none, errW_some] <;> rfl) | (simp [*, errW_none, errW_some] <;> rfl), by repeat (first | (with_reducible first | exact HB.out | apply below_alloc | apply pw_below_drewN | apply below_drew1) | exact HB.out)⟩
                                    · rw [if_neg c37] at H
                                      have c37b0 : decide (a0 < 0) = false := decide_eq_false c37
                                      clear c37
                                      by_cases c38 : (wrap64 (2 * (wrap64 (a0 - (wrap64 (t153 * a1)))))) = (wrap64 (-a1))
                                      · rw [if_pos c38] at H
                                        have c38b0 : ((wrap64 (2 * (wrap64 (a0 - (wrap64 (t153 * a1)))))) == (wrap64 (-a1))) = true := beq_iff_eq.mpr c38
                                        have c38b1 : ((wrap64 (2 * (wrap64 (a0 - (wrap64 (t153 * a1)))))) != (wrap64 (-a1))) = false := bne_eq_false_iff_eq.mpr c38
                                        clear c38
                                        obtain rfl := Option.some.inj H
                                        go_wp2
                                        go_ret
                                        exact ⟨by first | rfl | (simp [errW_none, errW_some] <;> rfl) | (simp [*, errW_none, errW_some] <;> rfl), by repeat (first | (with_reducible first | exact HB.out | apply below_alloc | apply pw_below_drewN | apply below_drew1) | exact HB.out)⟩
                                      · rw [if_neg c38] at H
                                        have c38b0 : ((wrap64 (2 * (wrap64 (a0 - (wrap64 (t153 * a1)))))) == (wrap64 (-a1))) = false := beq_eq_false_iff_ne.mpr c38
                                        have c38b1 : ((wrap64 (2 * (wrap64 (a0 - (wrap64 (t153 * a1)))))) != (wrap64 (-a1))) = true := bne_iff_ne.mpr c38
                                        obtain rfl := Option.some.inj H
                                        go_wp2
                                        go_ret
                                        exact ⟨by first | rfl | (simp [errW_none, errW_some] <;> rfl) | (simp [*, errW_none, errW_some] <;> rfl), by repeat (first | (with_reducible first | exact HB.out | apply below_alloc | apply pw_below_drewN | apply below_drew1) | exact HB.out)⟩
                                  · rw [if_neg c36] at H
                                    have c36b0 : ((wrap64 (2 * (wrap64 (a0 - (wrap64 (t153 * a1)))))) == a1) = false := beq_eq_false_iff_ne.mpr c36
                                    have c36b1 : ((wrap64 (2 * (wrap64 (a0 - (wrap64 (t153 * a1)))))) != a1) = true := bne_iff_ne.mpr c36
                                    by_cases c39 : (wrap64 (2 * (wrap64 (a0 - (wrap64 (t153 * a1)))))) = (wrap64 (-a1))
                                    · rw [if_pos c39] at H
                                      have c39b0 : ((wrap64 (2 * (wrap64 (a0 - (wrap64 (t153 * a1)))))) == (wrap64 (-a1))) = true := beq_iff_eq.mpr c39
                                      have c39b1 : ((wrap64 (2 * (wrap64 (a0 - (wrap64 (t153 * a1)))))) != (wrap64 (-a1))) = false := bne_eq_false_iff_eq.mpr c39
                                      clear c39
                                      obtain rfl := Option.some.inj H
                                      go_wp2
                                      go_ret
                                      exact ⟨by first | rfl | (simp [errW_none, errW_some] <;> rfl) | (simp [*, errW_none, errW_some] <;> rfl), by repeat (first | (with_reducible first | exact HB.out | apply below_alloc | apply pw_below_drewN | apply below_drew1) | exact HB.out)⟩
                                    · rw [if_neg c39] at H
                                      have c39b0 : ((wrap64 (2 * (wrap64 (a0 - (wrap64 (t153 * a1)))))) == (wrap64 (-a1))) = false := beq_eq_false_iff_ne.mpr c39
                                      have c39b1 : ((wrap64 (2 * (wrap64 (a0 - (wrap64 (t153 * a1)))))) != (wrap64 (-a1))) = true := bne_iff_ne.mpr c39
                                      obtain rfl := Option.some.inj H
                                      go_wp2
                                      go_ret
                                      exact ⟨by first | rfl | (simp [errW_none, errW_some] <;> rfl) | (simp [*, errW_none, errW_some] <;> rfl), by repeat (first | (with_reducible first | exact HB.out | apply below_alloc | apply pw_below_drewN | apply below_drew1) | exact HB.out)⟩
                              · rw [if_neg c29] at H
                                have c29b0 : (a2 == 4) = false := beq_eq_false_iff_ne.mpr c29
                                have c29b1 : (a2 != 4) = true := bne_iff_ne.mpr c29
                                by_cases c40 : a2 = 6
                                · rw [if_pos c40] at H
                                  have c40b0 : (a2 == 6) = true := beq_iff_eq.mpr c40
                                  have c40b1 : (a2 != 6) = false := bne_eq_false_iff_eq.mpr c40
                                  clear c40
                                  by_cases c41 : (wrap64 (2 * (wrap64 (a0 - (wrap64 (t153 * a1)))))) < a1
                                  · rw [if_pos c41] at H
                                    have c41b0 : decide ((wrap64 (2 * (wrap64 (a0 - (wrap64 (t153 * a1)))))) < a1) = true := decide_eq_true c41
                                    clear c41
                                    by_cases c42 : (wrap64 (2 * (wrap64 (a0 - (wrap64 (t153 * a1)))))) > (wrap64 (-a1))
                                    · rw [if_pos c42] at H
                                      have c42b0 : decide ((wrap64 (-a1)) < (wrap64 (2 * (wrap64 (a0 - (wrap64 (t153 * a1))))))) = true := decide_eq_true c42
                                      clear c42
                                      obtain rfl := Option.some.inj H
                                      go_wp2
                                      go_ret
                                      exact ⟨by first | rfl | (simp [errW_none, errW_some] <;> rfl) | (simp [*, errW_none, errW_some] <;> rfl), by repeat (first | (with_reducible first | exact HB.out | apply below_alloc | apply pw_below_drewN | apply below_drew1) | exact HB.out)⟩
                                    · rw [if_neg c42] at H
                                      have c42b0 : decide ((wrap64 (-a1)) < (wrap64 (2 * (wrap64 (a0 - (wrap64 (t153 * a1))))))) = false := decide_eq_false c42
                                      clear c42
                                      by_cases c43 : (wrap64 (2 * (wrap64 (a0 - (wrap64 (t153 * a1)))))) = a1
                                      · rw [if_pos c43] at H
                                        have c43b0 : ((wrap64 (2 * (wrap64 (a0 - (wrap64 (t153 * a1)))))) == a1) = true := beq_iff_eq.mpr c43
                                        have c43b1 : ((wrap64 (2 * (wrap64 (a0 - (wrap64 (t153 * a1)))))) != a1) = false := bne_eq_false_iff_eq.mpr c43
                                        clear c43
                                        by_cases c44 : a0 > 0
                                        · rw [if_pos c44] at H
                                          have c44b0 : decide (0 < a0) = true := decide_eq_true c44
                                          clear c44
                                          obtain rfl := Option.some.inj H
                                          go_wp2
                                          go_ret
                                          exact ⟨by first | rfl | (simp [errW_none, errW_some] <;> rfl) | (simp [*, errW_none, errW_some] <;> rfl), by repeat (first | (with_reducible first | exact HB.out | apply below_alloc | apply pw_below_drewN | apply below_drew1) | exact HB.out)⟩
                                        · rw [if_neg c44] at H
                                          have c44b0 : decide (0 < a0) = false := decide_eq_false c44
                                          clear c44
                                          by_cases c45 : (wrap64 (2 * (wrap64 (a0 - (wrap64 (t153 * a1)))))) = (wrap64 (-a1))
                                          · rw [if_pos c45] at H
                                            have c45b0 : ((wrap64 (2 * (wrap64 (a0 - (wrap64 (t153 * a1)))))) == (wrap64 (-a1))) = true := beq_iff_eq.mpr c45
                                            have c45b1 : ((wrap64 (2 * (wrap64 (a0 - (wrap64 (t153 * a1)))))) != (wrap64 (-a1))) = false := bne_eq_false_iff_eq.mpr c45
                                            clear c45
                                            obtain rfl := Option.some.inj H
                                            go_wp2
                                            go_ret
                                            exact ⟨by first | rfl | (simp [errW_none, errW_some] <;> rfl) | (simp [*, errW_none, errW_some] <;> rfl), by repeat (first | (with_reducible first | exact HB.out | apply below_alloc | apply pw_below_drewN | apply below_drew1) | exact HB.out)⟩
                                          · rw [if_neg c45] at H
                                            have c45b0 : ((wrap64 (2 * (wrap64 (a0 - (wrap64 (t153 * a1)))))) == (wrap64 (-a1))) = false := beq_eq_false_iff_ne.mpr c45
                                            have c45b1 : ((wrap64 (2 * (wrap64 (a0 - (wrap64 (t153 * a1)))))) != (wrap64 (-a1))) = true := bne_iff_ne.mpr c45
                                            obtain rfl := Option.some.inj H
                                            go_wp2
                                            go_ret
                                            exact ⟨by first | rfl | (simp [errW_none, errW_some] <;> rfl) | (simp [*, errW_none, errW_some] <;> rfl), by repeat (first | (with_reducible first | exact HB.out | apply below_alloc | apply pw_below_drewN | apply below_drew1) | exact HB.out)⟩
                                      · rw [if_neg c43] at H
                                        have c43b0 : ((wrap64 (2 * (wrap64 (a0 - (wrap64 (t153 * a1)))))) == a1) = false := beq_eq_false_iff_ne.mpr c43
                                        have c43b1 : ((wrap64 (2 * (wrap64 (a0 - (wrap64 (t153 * a1)))))) != a1) = true := bne_iff_ne.mpr c43
                                        by_cases c46 : (wrap64 (2 * (wrap64 (a0 - (wrap64 (t153 * a1)))))) = (wrap64 (-a1))
                                        · rw [if_pos c46] at H
                                          have c46b0 : ((wrap64 (2 * (wrap64 (a0 - (wrap64 (t153 * a1)))))) == (wrap64 (-a1))) = true := beq_iff_eq.mpr c46
                                          have c46b1 : ((wrap64 (2 * (wrap64 (a0 - (wrap64 (t153 * a1)))))) != (wrap64 (-a1))) = false := bne_eq_false_iff_eq.mpr c46
                                          clear c46
                                          obtain rfl := Option.some.inj H
                                          go_wp2
                                          go_ret
                                          exact ⟨by first | rfl | (simp [errW_none, errW_some] <;> rfl) | (simp [*, errW_none, errW_some] <;> rfl), by repeat (first | (with_reducible first | exact HB.out | apply below_alloc | apply pw_below_drewN | apply below_drew1) | exact HB.out)⟩
                                        · rw [if_neg c46] at H
                                          have c46b0 : ((wrap64 (2 * (wrap64 (a0 - (wrap64 (t153 * a1)))))) == (wrap64 (-a1))) = false := beq_eq_false_iff_ne.mpr c46
                                          have c46b1 : ((wrap64 (2 * (wrap64 (a0 - (wrap64 (t153 * a1)))))) != (wrap64 (-a1))) = true := bne_iff_ne.mpr c46
                                          obtain rfl := Option.some.inj H
                                          go_wp2
                                          go_ret
                                          exact ⟨by first | rfl | (simp [errW_none, errW_some] <;> rfl) | (simp [*, errW_none, errW_some] <;> rfl), by repeat (first | (with_reducible first | exact HB.out | apply below_alloc | apply pw_below_drewN | apply below_drew1) | exact HB.out)⟩
                                  · rw [if_neg c41] at H
                                    have c41b0 : decide ((wrap64 (2 * (wrap64 (a0 - (wrap64 (t153 * a1)))))) < a1) = false := decide_eq_false c41
                                    clear c41
                                    by_cases c47 : (wrap64 (2 * (wrap64 (a0 - (wrap64 (t153 * a1)))))) = a1
                                    · rw [if_pos c47] at H
                                      have c47b0 : ((wrap64 (2 * (wrap64 (a0 - (wrap64 (t153 * a1)))))) == a1) = true := beq_iff_eq.mpr c47
                                      have c47b1 : ((wrap64 (2 * (wrap64 (a0 - (wrap64 (t153 * a1)))))) != a1) = false := bne_eq_false_iff_eq.mpr c47
                                      clear c47
                                      by_cases c48 : a0 > 0
                                      · rw [if_pos c48] at H
                                        have c48b0 : decide (0 < a0) = true := decide_eq_true c48
                                        clear c48
                                        obtain rfl := Option.some.inj H
                                        go_wp2
                                        go_ret
                                        exact ⟨by first | rfl | (simp [errW_none, errW_some] <;> rfl) | (simp [*, errW_none, errW_some] <;> rfl), by repeat (first | (with_reducible first | exact HB.out | apply below_alloc | apply pw_below_drewN | apply below_drew1) | exact HB.out)⟩
                                      · rw [if_neg c48] at H
                                        have c48b0 : decide (0 < a0) = false := decide_eq_false c48
                                        clear c48
                                        by_cases c49 : (wrap64 (2 * (wrap64 (a0 - (wrap64 (t153 * a1)))))) = (wrap64 (-a1))
                                        · rw [if_pos c49] at H
                                          have c49b0 : ((wrap64 (2 * (wrap64 (a0 - (wrap64 (t153 * a1)))))) == (wrap64 (-a1))) = true := beq_iff_eq.mpr c49
                                          have c49b1 : ((wrap64 (2 * (wrap64 (a0 - (wrap64 (t153 * a1)))))) != (wrap64 (-a1))) = false := bne_eq_false_iff_eq.mpr c49
                                          clear c49
                                          obtain rfl := Option.some.inj H
                                          go_wp2
                                          go_ret
                                          exact ⟨by first | rfl | (simp [errW_none, errW_some] <;> rfl) | (simp [*, errW_none, errW_some] <;> rfl), by repeat (first | (with_reducible first | exact HB.out | apply below_alloc | apply pw_below_drewN | apply below_drew1) | exact HB.out)⟩
                                        · rw [if_neg c49] at H
                                          have c49b0 : ((wrap64 (2 * (wrap64 (a0 - (wrap64 (t153 * a1)))))) == (wrap64 (-a1))) = false := beq_eq_false_iff_ne.mpr c49
                                          have c49b1 : ((wrap64 (2 * (wrap64 (a0 - (wrap64 (t153 * a1)))))) != (wrap64 (-a1))) = true := bne_iff_ne.mpr c49
                                          obtain rfl := Option.some.inj H
                                          go_wp2
                                          go_ret
                                          exact ⟨by first | rfl | (simp [errW_none, errW_some] <;> rfl) | (simp [*, errW_none, errW_some] <;> rfl), by repeat (first | (with_reducible first | exact HB.out | apply below_alloc | apply pw_below_drewN | apply below_drew1) | exact HB.out)⟩
                                    · rw [if_neg c47] at H
                                      have c47b0 : ((wrap64 (2 * (wrap64 (a0 - (wrap64 (t153 * a1)))))) == a1) = false := beq_eq_false_iff_ne.mpr c47
                                      have c47b1 : ((wrap64 (2 * (wrap64 (a0 - (wrap64 (t153 * a1)))))) != a1) = true := bne_iff_ne.mpr c47
                                      by_cases c50 : (wrap64 (2 * (wrap64 (a0 - (wrap64 (t153 * a1)))))) = (wrap64 (-a1))
                                      · rw [if_pos c50] at H
                                        have c50b0 : ((wrap64 (2 * (wrap64 (a0 - (wrap64 (t153 * a1)))))) == (wrap64 (-a1))) = true := beq_iff_eq.mpr c50
                                        have c50b1 : ((wrap64 (2 * (wrap64 (a0 - (wrap64 (t153 * a1)))))) != (wrap64 (-a1))) = false := bne_eq_false_iff_eq.mpr c50
                                        clear c50
                                        obtain rfl := Option.some.inj H
                                        go_wp2
                                        go_ret
                                        exact ⟨by first | rfl | (simp [errW_none, errW_some] <;> rfl) | (simp [*, errW_none, errW_some] <;> rfl), by repeat (first | (with_reducible first | exact HB.out | apply below_alloc | apply pw_below_drewN | apply below_drew1) | exact HB.out)⟩
                                      · rw [if_neg c50] at H
                                        have c50b0 : ((wrap64 (2 * (wrap64 (a0 - (wrap64 (t153 * a1)))))) == (wrap64 (-a1))) = false := beq_eq_false_iff_ne.mpr c50
                                        have c50b1 : ((wrap64 (2 * (wrap64 (a0 - (wrap64 (t153 * a1)))))) != (wrap64 (-a1))) = true := bne_iff_ne.mpr c50
                                        obtain rfl := Option.some.inj H
                                        go_wp2
                                        go_ret
                                        exact ⟨by first | rfl | (simp [errW_none, errW_some] <;> rfl) | (simp [*, errW_none, errW_some] <;> rfl), by repeat (first | (with_reducible first | exact HB.out | apply below_alloc | apply pw_below_drewN | apply below_drew1) | exact HB.out)⟩
                                · rw [if_neg c40] at H
                                  have c40b0 : (a2 == 6) = false := beq_eq_false_iff_ne.mpr c40
                                  have c40b1 : (a2 != 6) = true := bne_iff_ne.mpr c40
                                  by_cases c51 : (wrap64 (2 * (wrap64 (a0 - (wrap64 (t153 * a1)))))) < a1
                                  · rw [if_pos c51] at H
                                    have c51b0 : decide ((wrap64 (2 * (wrap64 (a0 - (wrap64 (t153 * a1)))))) < a1) = true := decide_eq_true c51
                                    clear c51
                                    by_cases c52 : (wrap64 (2 * (wrap64 (a0 - (wrap64 (t153 * a1)))))) > (wrap64 (-a1))
                                    · rw [if_pos c52] at H
                                      have c52b0 : decide ((wrap64 (-a1)) < (wrap64 (2 * (wrap64 (a0 - (wrap64 (t153 * a1))))))) = true := decide_eq_true c52
                                      clear c52
                                      obtain rfl := Option.some.inj H
                                      go_wp2
                                      go_ret
                                      exact ⟨by first | rfl | (simp [errW_none, errW_some] <;> rfl) | (simp [*, errW_none, errW_some] <;> rfl), by repeat (first | (with_reducible first | exact HB.out | apply below_alloc | apply pw_below_drewN | apply below_drew1) | exact HB.out)⟩
                                    · rw [if_neg c52] at H
                                      have c52b0 : decide ((wrap64 (-a1)) < (wrap64 (2 * (wrap64 (a0 - (wrap64 (t153 * a1))))))) = false := decide_eq_false c52
                                      clear c52
                                      by_cases c53 : (wrap64 (2 * (wrap64 (a0 - (wrap64 (t153 * a1)))))) = a1
                                      · rw [if_pos c53] at H
                                        have c53b0 : ((wrap64 (2 * (wrap64 (a0 - (wrap64 (t153 * a1)))))) == a1) = true := beq_iff_eq.mpr c53
                                        have c53b1 : ((wrap64 (2 * (wrap64 (a0 - (wrap64 (t153 * a1)))))) != a1) = false := bne_eq_false_iff_eq.mpr c53
                                        clear c53
                                        obtain rfl := Option.some.inj H
                                        go_wp2
                                        go_ret
                                        exact ⟨by first | rfl | (simp [errW_none, errW_some] <;> rfl) | (simp [*, errW_none, errW_some] <;> rfl), by repeat (first | (with_reducible first | exact HB.out | apply below_alloc | apply pw_below_drewN | apply below_drew1) | exact HB.out)⟩
                                      · rw [if_neg c53] at H
                                        have c53b0 : ((wrap64 (2 * (wrap64 (a0 - (wrap64 (t153 * a1)))))) == a1) = false := beq_eq_false_iff_ne.mpr c53
                                        have c53b1 : ((wrap64 (2 * (wrap64 (a0 - (wrap64 (t153 * a1)))))) != a1) = true := bne_iff_ne.mpr c53
                                        by_cases c54 : (wrap64 (2 * (wrap64 (a0 - (wrap64 (t153 * a1)))))) = (wrap64 (-a1))
                                        · rw [if_pos c54] at H
                                          have c54b0 : ((wrap64 (2 * (wrap64 (a0 - (wrap64 (t153 * a1)))))) == (wrap64 (-a1))) = true := beq_iff_eq.mpr c54
                                          have c54b1 : ((wrap64 (2 * (wrap64 (a0 - (wrap64 (t153 * a1)))))) != (wrap64 (-a1))) = false := bne_eq_false_iff_eq.mpr c54
                                          clear c54
                                          obtain rfl := Option.some.inj H
                                          go_wp2
                                          go_ret
                                          exact ⟨by first | rfl | (simp [errW_none, errW_some] <;> rfl) | (simp [*, errW_none, errW_some] <;> rfl), by repeat (first | (with_reducible first | exact HB.out | apply below_alloc | apply pw_below_drewN | apply below_drew1) | exact HB.out)⟩
                                        · rw [if_neg c54] at H
                                          have c54b0 : ((wrap64 (2 * (wrap64 (a0 - (wrap64 (t153 * a1)))))) == (wrap64 (-a1))) = false := beq_eq_false_iff_ne.mpr c54
                                          have c54b1 : ((wrap64 (2 * (wrap64 (a0 - (wrap64 (t153 * a1)))))) != (wrap64 (-a1))) = true := bne_iff_ne.mpr c54
                                          obtain rfl := Option.some.inj H
                                          go_wp2
                                          go_ret
                                          exact ⟨by first | rfl | (simp [errW_none, errW_some] <;> rfl) | (simp [*, errW_none, errW_some] <;> rfl), by repeat (first | (with_reducible first | exact HB.out | apply below_alloc | apply pw_below_drewN | apply below_drew1) | exact HB.out)⟩
                                  · rw [if_neg c51] at H
                                    have c51b0 : decide ((wrap64 (2 * (wrap64 (a0 - (wrap64 (t153 * a1)))))) < a1) = false := decide_eq_false c51
                                    clear c51
                                    by_cases c55 : (wrap64 (2 * (wrap64 (a0 - (wrap64 (t153 * a1)))))) = a1
                                    · rw [if_pos c55] at H
                                      have c55b0 : ((wrap64 (2 * (wrap64 (a0 - (wrap64 (t153 * a1)))))) == a1) = true := beq_iff_eq.mpr c55
                                      have c55b1 : ((wrap64 (2 * (wrap64 (a0 - (wrap64 (t153 * a1)))))) != a1) = false := bne_eq_false_iff_eq.mpr c55
                                      clear c55
                                      obtain rfl := Option.some.inj H
                                      go_wp2
                                      go_ret
                                      exact ⟨by first | rfl | (simp [errW_none, errW_some] <;> rfl) | (simp [*, errW_none, errW_some] <;> rfl), by repeat (first | (with_reducible first | exact HB.out | apply below_alloc | apply pw_below_drewN | apply below_drew1) | exact HB.out)⟩
                                    · rw [if_neg c55] at H
                                      have c55b0 : ((wrap64 (2 * (wrap64 (a0 - (wrap64 (t153 * a1)))))) == a1) = false := beq_eq_false_iff_ne.mpr c55
                                      have c55b1 : ((wrap64 (2 * (wrap64 (a0 - (wrap64 (t153 * a1)))))) != a1) = true := bne_iff_ne.mpr c55
                                      by_cases c56 : (wrap64 (2 * (wrap64 (a0 - (wrap64 (t153 * a1)))))) = (wrap64 (-a1))
                                      · rw [if_pos c56] at H
                                        have c56b0 : ((wrap64 (2 * (wrap64 (a0 - (wrap64 (t153 * a1)))))) == (wrap64 (-a1))) = true := beq_iff_eq.mpr c56
                                        have c56b1 : ((wrap64 (2 * (wrap64 (a0 - (wrap64 (t153 * a1)))))) != (wrap64 (-a1))) = false := bne_eq_false_iff_eq.mpr c56
                                        clear c56
                                        obtain rfl := Option.some.inj H
                                        go_wp2
                                        go_ret
                                        exact ⟨by first | rfl | (simp [errW_none, errW_some] <;> rfl) | (simp [*, errW_none, errW_some] <;> rfl), by repeat (first | (with_reducible first | exact HB.out | apply below_alloc | apply pw_below_drewN | apply below_drew1) | exact HB.out)⟩
                                      · rw [if_neg c56] at H
                                        have c56b0 : ((wrap64 (2 * (wrap64 (a0 - (wrap64 (t153 * a1)))))) == (wrap64 (-a1))) = false := beq_eq_false_iff_ne.mpr c56
                                        have c56b1 : ((wrap64 (2 * (wrap64 (a0 - (wrap64 (t153 * a1)))))) != (wrap64 (-a1))) = true := bne_iff_ne.mpr c56
                                        obtain rfl := Option.some.inj H
                                        go_wp2
                                        go_ret
                                        exact ⟨by first | rfl | (simp [errW_none, errW_some] <;> rfl) | (simp [*, errW_none, errW_some] <;> rfl), by repeat (first | (with_reducible first | exact HB.out | apply below_alloc | apply pw_below_drewN | apply below_drew1) | exact HB.out)⟩
          · rw [if_neg c13] at H
            have c13b0 : (t154 == 0) = false := beq_eq_false_iff_ne.mpr c13
            have c13b1 : (t154 != 0) = true := bne_iff_ne.mpr c13
            obtain rfl := Option.some.inj H
            go_wp2
            go_ret
            exact ⟨by first | rfl | (simp [errW_none, errW_some] <;> rfl) | (simp [*, errW_none, errW_some] <;> rfl), by repeat (first | (with_reducible first | exact HB.out | apply below_alloc | apply pw_below_drewN | apply below_drew1) | exact HB.out)⟩
  · replace c5 := Bool.eq_false_iff.mpr c5
    subst c5
    have H1 : (some false) = some r := by rw [if_neg (show ¬ (false = true) by decide)] at H; exact H
    clear H
    have H := H1
    clear H1
    obtain rfl := Option.some.inj H
    go_enter Try.func8, Try.ntmps8
    go_wp2_with (first | ((with_reducible refine gate_callee (f := 30) rfl ?_); refine goesL_ (some 11) rfl rfl Try.func30 (by kernel_rfl) rfl #[] rfl (by (try simp only [List.map_toArray, List.map_cons, List.map_nil]); first | done | rfl | (simp only [List.length_drop, List.length_take]; rfl)) ?_; (with_reducible refine (stipendlaw02_parts.calls k  false _ A4.out).mono ?_); rintro e w57 ⟨rfl, hb⟩; refine ⟨_, rfl, ?_⟩; have n0_ := Aside0.mk (below_step (by repeat (first | (with_reducible first | exact HB.out | apply below_alloc | apply pw_below_drewN | apply below_drew1) | exact HB.out)) hb); clear HB; have HB := n0_; clear n0_; (try clear hb); (try clear hb2); (try clear hk); (try clear hi)))
    go_ret
    exact ⟨by first | rfl | (simp [errW_none, errW_some] <;> rfl) | (simp [*, errW_none, errW_some] <;> rfl), by repeat (first | (with_reducible first | exact HB.out | apply below_alloc | apply pw_below_drewN | apply below_drew1) | exact HB.out)⟩

/-- THE ONE PURE STATEMENT of stipendlaw02_FracRounds: yours. -/
def stipendlaw02_FracRounds.Pure : Prop := ∀ (a0 : Int) (a1 : Int) (a2 : Int), (Lit.int .i64 a0).wf = true → (Lit.int .i64 a1).wf = true → (Lit.int .i64 a2).wf = true → ∃ k, stipendlaw02_FracRounds.f k a0 a1 a2 = some true
theorem stipendlaw02_FracRounds.walk (P : stipendlaw02_FracRounds.Pure) (a0 : Int) (a1 : Int) (a2 : Int) (w : World) (w0 : (Lit.int .i64 a0).wf = true) (w1 : (Lit.int .i64 a1).wf = true) (w2 : (Lit.int .i64 a2).wf = true) :
    Calls Try.prog 8 #[.int .i64 a0, .int .i64 a1, .int .i64 a2] w fun e w' => e = .returned (.bool true) ∧ Below w.heap.size w w' := by
  obtain ⟨k, h⟩ := P a0 a1 a2 w0 w1 w2
  refine (stipendlaw02_FracRounds.calls k a0 a1 a2 true w h).mono ?_
  rintro e w' ⟨rfl, hd⟩
  exact ⟨rfl, hd⟩

end Go.Proofs.Ytfiomckebicphaa.X
