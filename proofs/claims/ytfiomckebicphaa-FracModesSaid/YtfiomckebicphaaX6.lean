-- laid by the session's own program (xprint.py) out of Lean's print of the program; Lean checks it
import Derived.Test.YtfiomckebicphaaX0
import Derived.Test.YtfiomckebicphaaX2
import Derived.Test.YtfiomckebicphaaX4
namespace Go.Proofs.Ytfiomckebicphaa.X
open Go.RowKit Go.Proofs.YtfiomckebicphaaW.PrintWords Go.Proofs.YtfiomckebicphaaW.PrintLast Go.Proofs.YtfiomckebicphaaW.PrintMore
attribute [local go_sem] max2_int min2_int max_two min_two max_three min_three max_four min_four   -- for this text's walks alone
set_option linter.unusedVariables false
set_option linter.unusedSimpArgs false

/-! ### stipendlaw02_FracModes: function 9 -/
mutual
def stipendlaw02_FracModes.j0 : Nat → Int → Int → Bool → Option (Bool)
  | 0, _, _, _ => none
  | k + 1, x0, x1, x21 => if x21 = true then (some true) else ((frac_Round.f k x0 x1 1).bind fun bt158 => ((frac_Round.f k x0 x1 2).bind fun bt160 => ((frac_Round.f k (wrap64 (-x0)) x1 1).bind fun bt162 => (stipendlaw02_FracModes.l0 k x0 x1 bt158.1 bt160.1 bt162.1 1))))
def stipendlaw02_FracModes.l0 : Nat → Int → Int → Int → Int → Int → Int → Option (Bool)
  | 0, _, _, _, _, _, _ => none
  | k + 1, x0, x1, x5, x7, x9, x11 => if x11 ≤ 6 then ((frac_Round.f k x0 x1 x11).bind fun bt164 => (if bt164.2 = 0 then (if bt164.1 = x5 then (stipendlaw02_FracModes.l0 k x0 x1 x5 x7 x9 (wrap64 (x11 + 1))) else (if bt164.1 = x7 then (stipendlaw02_FracModes.l0 k x0 x1 x5 x7 x9 (wrap64 (x11 + 1))) else (some false))) else (some false))) else (if x9 = (wrap64 (-x7)) then (if x1 = 0 then (none) else (if (((Int.tmod x0 x1) == 0) == (x5 == x7)) = true then (if x5 = x7 then (some true) else (if x5 < x7 then (some ((wrap64 (x7 - x5)) == 1)) else (some false))) else (some false))) else (some false))
end
def stipendlaw02_FracModes.f (k : Nat) (a0 : Int) (a1 : Int) : Option (Bool) := (stipendlaw02_parts.f k).bind fun t157 => (if t157 = true then (if a1 ≤ 0 then (stipendlaw02_FracModes.j0 k a0 a1 true) else (stipendlaw02_FracModes.j0 k a0 a1 (a0 == (-9223372036854775808)))) else (some false))
theorem stipendlaw02_FracModes.mono_l : ∀ k, (∀ y0 y1 y2, LeO (stipendlaw02_FracModes.j0 k y0 y1 y2) (stipendlaw02_FracModes.j0 (k + 1) y0 y1 y2)) ∧ (∀ y0 y1 y2 y3 y4 y5, LeO (stipendlaw02_FracModes.l0 k y0 y1 y2 y3 y4 y5) (stipendlaw02_FracModes.l0 (k + 1) y0 y1 y2 y3 y4 y5))
  | 0 => ⟨fun _ _ _ r h => by simp [stipendlaw02_FracModes.j0] at h, fun _ _ _ _ _ _ r h => by simp [stipendlaw02_FracModes.l0] at h⟩
  | k + 1 => by
    obtain ⟨ih0, ih1⟩ := stipendlaw02_FracModes.mono_l k
    refine ⟨?_, ?_⟩
    · intro y0 y1 y2
      unfold stipendlaw02_FracModes.j0
      repeat' first
      | (with_reducible exact ih0 _ _ _)
      | (with_reducible exact ih1 _ _ _ _ _ _)
      | (with_reducible exact frac_Round.mono _ _ _ _)
      | (with_reducible exact stipendlaw02_parts.mono _)
      | (with_reducible exact LeO.refl _)
      | (with_reducible exact LeO.none _)
      | (with_reducible refine LeO.ite ?_ ?_)
      | (with_reducible refine LeO.bind ?_ (fun _ => ?_))
      | exact ih0 _ _ _
      | exact ih1 _ _ _ _ _ _
      | exact frac_Round.mono _ _ _ _
      | exact stipendlaw02_parts.mono _
      | exact LeO.none _
      | refine LeO.ite ?_ ?_
      | refine LeO.bind ?_ (fun _ => ?_)
    · intro y0 y1 y2 y3 y4 y5
      unfold stipendlaw02_FracModes.l0
      repeat' first
      | (with_reducible exact ih0 _ _ _)
      | (with_reducible exact ih1 _ _ _ _ _ _)
      | (with_reducible exact frac_Round.mono _ _ _ _)
      | (with_reducible exact stipendlaw02_parts.mono _)
      | (with_reducible exact LeO.refl _)
      | (with_reducible exact LeO.none _)
      | (with_reducible refine LeO.ite ?_ ?_)
      | (with_reducible refine LeO.bind ?_ (fun _ => ?_))
      | exact ih0 _ _ _
      | exact ih1 _ _ _ _ _ _
      | exact frac_Round.mono _ _ _ _
      | exact stipendlaw02_parts.mono _
      | exact LeO.none _
      | refine LeO.ite ?_ ?_
      | refine LeO.bind ?_ (fun _ => ?_)
theorem stipendlaw02_FracModes.mono : ∀ a0 a1 k, LeO (stipendlaw02_FracModes.f k a0 a1) (stipendlaw02_FracModes.f (k + 1) a0 a1) := by
  intro a0 a1 k
  obtain ⟨ih0, ih1⟩ := stipendlaw02_FracModes.mono_l k
  unfold stipendlaw02_FracModes.f
  repeat' first
      | (with_reducible exact ih0 _ _ _)
      | (with_reducible exact ih1 _ _ _ _ _ _)
      | (with_reducible exact frac_Round.mono _ _ _ _)
      | (with_reducible exact stipendlaw02_parts.mono _)
      | (with_reducible exact LeO.refl _)
      | (with_reducible exact LeO.none _)
      | (with_reducible refine LeO.ite ?_ ?_)
      | (with_reducible refine LeO.bind ?_ (fun _ => ?_))
      | exact ih0 _ _ _
      | exact ih1 _ _ _ _ _ _
      | exact frac_Round.mono _ _ _ _
      | exact stipendlaw02_parts.mono _
      | exact LeO.none _
      | refine LeO.ite ?_ ?_
      | refine LeO.bind ?_ (fun _ => ?_)
set_option maxHeartbeats 8000000 in
set_option maxRecDepth 100000 in
theorem stipendlaw02_FracModes.calls (k : Nat) (a0 : Int) (a1 : Int) (r : Bool) (w : World) (h : stipendlaw02_FracModes.f k a0 a1 = some r) :
    Calls Try.prog 9 #[.int .i64 a0, .int .i64 a1] w fun e w' => e = .returned (.bool r) ∧ Below w.heap.size w w' := by
  have HB := Aside0.mk (Below.refl w.heap.size w)
  have H : ((stipendlaw02_parts.f k).bind fun t157 => (if t157 = true then (if a1 ≤ 0 then (stipendlaw02_FracModes.j0 k a0 a1 true) else (stipendlaw02_FracModes.j0 k a0 a1 (a0 == (-9223372036854775808)))) else (some false))) = some r := h
  clear h
  replace H := Option.bind_eq_some_iff.mp H
  obtain ⟨t157, A30, H⟩ := H
  replace H : (if t157 = true then (if a1 ≤ 0 then (stipendlaw02_FracModes.j0 k a0 a1 true) else (stipendlaw02_FracModes.j0 k a0 a1 (a0 == (-9223372036854775808)))) else (some false)) = some r := H
  have A3 := Aside0.mk A30
  clear A30
  by_cases c4 : t157 = true
  · subst c4
    have H1 : (if a1 ≤ 0 then (stipendlaw02_FracModes.j0 k a0 a1 true) else (stipendlaw02_FracModes.j0 k a0 a1 (a0 == (-9223372036854775808)))) = some r := by rw [if_pos rfl] at H; exact H
    clear H
    have H := H1
    clear H1
    have HC5 := Aside0.mk H
    clear H
    go_enter Try.func9, Try.ntmps9
    go_upto_region 3 with (first | ((with_reducible refine gate_callee (f := 30) rfl ?_); refine goesL_ (some 14) rfl rfl Try.func30 (by kernel_rfl) rfl #[] rfl (by (try simp only [List.map_toArray, List.map_cons, List.map_nil]); first | done | rfl | (simp only [List.length_drop, List.length_take]; rfl)) ?_; (with_reducible refine (stipendlaw02_parts.calls k  true _ A3.out).mono ?_); rintro e w6 ⟨rfl, hb⟩; refine ⟨_, rfl, ?_⟩; have n0_ := Aside0.mk (below_step (by repeat (first | (with_reducible first | exact HB.out | apply below_alloc | apply pw_below_drewN | apply below_drew1) | exact HB.out)) hb); clear HB; have HB := n0_; clear n0_; (try clear hb); (try clear hb2); (try clear hk); (try clear hi)))
    (try simp only [Act.put, List.setIfInBounds_toArray, List.set_cons_zero, List.set_cons_succ])
    go_cut [21] (fun v21 wc => ∃ (kq : Nat) (x21_4 : Bool), v21 = .bool x21_4 ∧ Aside0 (stipendlaw02_FracModes.j0 kq a0 a1 x21_4 = some r) ∧ Aside0 (kq ≤ k) ∧ Aside0 (Below w.heap.size w wc))
    case first =>
      have H := HC5.out
      clear HC5
      by_cases c7 : a1 ≤ 0
      · rw [if_pos c7] at H
        have c7b0 : decide (a1 ≤ 0) = true := decide_eq_true c7
        clear c7
        (first | rw [c7b0] | (simp only [i64_w, i32_w]; rw [c7b0]) | skip)
        have H' := Aside0.mk H
        clear H
        go_wp2
        go_meet
        case rel => exact ⟨_, (true), (by first | rfl | (simp; done) | (simp [*]; done)), H', ⟨by first | omega | exact Nat.le_refl _⟩, ⟨by repeat (first | (with_reducible first | exact HB.out | apply below_alloc | apply pw_below_drewN | apply below_drew1) | exact HB.out)⟩⟩
      · rw [if_neg c7] at H
        have c7b0 : decide (a1 ≤ 0) = false := decide_eq_false c7
        clear c7
        (first | rw [c7b0] | (simp only [i64_w, i32_w]; rw [c7b0]) | skip)
        have H' := Aside0.mk H
        clear H
        go_wp2
        go_meet
        case rel => exact ⟨_, ((a0 == (-9223372036854775808))), (by first | rfl | (simp; done) | (simp [*]; done)), H', ⟨by first | omega | exact Nat.le_refl _⟩, ⟨by repeat (first | (with_reducible first | exact HB.out | apply below_alloc | apply pw_below_drewN | apply below_drew1) | exact HB.out)⟩⟩
    case rest =>
      clear HC5
      try clear p2
      try clear c3
      try clear c4
      try clear c7
      try clear c7b0
      obtain ⟨kq, x21_4, rfl, HA, HJ4, HB⟩ := hcut
      cases kq with
      | zero => exact absurd HA.out (by simp [stipendlaw02_FracModes.j0])
      | succ kj4 =>
        have H := HA.out
        clear HA
        simp only [stipendlaw02_FracModes.j0] at H
        by_cases c8 : x21_4 = true
        · subst c8
          have H1 : (some true) = some r := by rw [if_pos rfl] at H; exact H
          clear H
          have H := H1
          clear H1
          obtain rfl := Option.some.inj H
          go_wp2
          go_ret
          exact ⟨by first | rfl | (simp [errW_none, errW_some] <;> rfl) | (simp [*, errW_none, errW_some] <;> rfl), by repeat (first | (with_reducible first | exact HB.out | apply below_alloc | apply pw_below_drewN | apply below_drew1) | exact HB.out)⟩
        · replace c8 := Bool.eq_false_iff.mpr c8
          subst c8
          have H1 : ((frac_Round.f kj4 a0 a1 1).bind fun bt158 => ((frac_Round.f kj4 a0 a1 2).bind fun bt160 => ((frac_Round.f kj4 (wrap64 (-a0)) a1 1).bind fun bt162 => (stipendlaw02_FracModes.l0 kj4 a0 a1 bt158.1 bt160.1 bt162.1 1)))) = some r := by rw [if_neg (show ¬ (false = true) by decide)] at H; exact H
          clear H
          have H := H1
          clear H1
          replace H := Option.bind_eq_some_iff.mp H
          obtain ⟨⟨t158, t159⟩, A90, H⟩ := H
          replace H : ((frac_Round.f kj4 a0 a1 2).bind fun bt160 => ((frac_Round.f kj4 (wrap64 (-a0)) a1 1).bind fun bt162 => (stipendlaw02_FracModes.l0 kj4 a0 a1 t158 bt160.1 bt162.1 1))) = some r := H
          have A9 := Aside0.mk A90
          clear A90
          replace H := Option.bind_eq_some_iff.mp H
          obtain ⟨⟨t160, t161⟩, A100, H⟩ := H
          replace H : ((frac_Round.f kj4 (wrap64 (-a0)) a1 1).bind fun bt162 => (stipendlaw02_FracModes.l0 kj4 a0 a1 t158 t160 bt162.1 1)) = some r := H
          have A10 := Aside0.mk A100
          clear A100
          replace H := Option.bind_eq_some_iff.mp H
          obtain ⟨⟨t162, t163⟩, A110, H⟩ := H
          replace H : (stipendlaw02_FracModes.l0 kj4 a0 a1 t158 t160 t162 1) = some r := H
          have A11 := Aside0.mk A110
          clear A110
          have H' := Aside0.mk H
          clear H
          go_wp2_with (first | ((with_reducible refine gate_callee (f := 31) rfl ?_); refine goesL_ (some 25) rfl rfl Try.func31 (by kernel_rfl) rfl #[.int .i64 a0, .int .i64 a1, .int .i64 1] rfl (by (try simp only [List.map_toArray, List.map_cons, List.map_nil]); first | done | rfl | (simp only [List.length_drop, List.length_take]; rfl)) ?_; (with_reducible refine (frac_Round.calls kj4 a0 a1 1 t158 t159 _ A9.out).mono ?_); rintro e w' ⟨rfl, ⟨nd, rfl⟩⟩; refine ⟨_, rfl, ?_⟩) | ((with_reducible refine gate_callee (f := 31) rfl ?_); refine goesL_ (some 31) rfl rfl Try.func31 (by kernel_rfl) rfl #[.int .i64 a0, .int .i64 a1, .int .i64 2] rfl (by (try simp only [List.map_toArray, List.map_cons, List.map_nil]); first | done | rfl | (simp only [List.length_drop, List.length_take]; rfl)) ?_; (with_reducible refine (frac_Round.calls kj4 a0 a1 2 t160 t161 _ A10.out).mono ?_); rintro e w' ⟨rfl, ⟨nd, rfl⟩⟩; refine ⟨_, rfl, ?_⟩) | ((with_reducible refine gate_callee (f := 31) rfl ?_); refine goesL_ (some 38) rfl rfl Try.func31 (by kernel_rfl) rfl #[.int .i64 (wrap64 (-a0)), .int .i64 a1, .int .i64 1] rfl (by (try simp only [List.map_toArray, List.map_cons, List.map_nil]); first | done | rfl | (simp only [List.length_drop, List.length_take]; rfl)) ?_; (with_reducible refine (frac_Round.calls kj4 (wrap64 (-a0)) a1 1 t162 t163 _ A11.out).mono ?_); rintro e w' ⟨rfl, ⟨nd, rfl⟩⟩; refine ⟨_, rfl, ?_⟩))
          go_loopg [11] kj4 (fun kq v11 w' => ∃ (x11_2 : Int), v11 = .int .i64 x11_2 ∧ Aside0 (stipendlaw02_FracModes.l0 kq a0 a1 t158 t160 t162 x11_2 = some r) ∧ Aside0 (kq ≤ kj4) ∧ Aside0 (Below w.heap.size w w'))
          case atStart => exact ⟨(1), (by first | rfl | (simp; done) | (simp [*]; done)), H', ⟨Nat.le_refl _⟩, ⟨by repeat (first | (with_reducible first | exact HB.out | apply below_alloc | apply pw_below_drewN | apply below_drew1) | exact HB.out)⟩⟩
          case round =>
            clear H'
            try clear p2
            try clear c3
            try clear c4
            try clear p6
            try clear c7
            try clear c7b0
            try clear c8
            try clear c9
            try clear p2
            obtain ⟨x11_2, rfl, HA, HK2, HB⟩ := hrel
            cases gk with
            | zero => exact absurd HA.out (by simp [stipendlaw02_FracModes.l0])
            | succ k2 =>
              have H := HA.out
              clear HA
              simp only [stipendlaw02_FracModes.l0] at H
              by_cases c12 : x11_2 ≤ 6
              · rw [if_pos c12] at H
                have c12b0 : decide (x11_2 ≤ 6) = true := decide_eq_true c12
                clear c12
                replace H := Option.bind_eq_some_iff.mp H
                obtain ⟨⟨t164, t165⟩, A130, H⟩ := H
                replace H : (if t165 = 0 then (if t164 = t158 then (stipendlaw02_FracModes.l0 k2 a0 a1 t158 t160 t162 (wrap64 (x11_2 + 1))) else (if t164 = t160 then (stipendlaw02_FracModes.l0 k2 a0 a1 t158 t160 t162 (wrap64 (x11_2 + 1))) else (some false))) else (some false)) = some r := H
                have A13 := Aside0.mk A130
                clear A130
                by_cases c14 : t165 = 0
                · rw [if_pos c14] at H
                  have c14b0 : (t165 == 0) = true := beq_iff_eq.mpr c14
                  have c14b1 : (t165 != 0) = false := bne_eq_false_iff_eq.mpr c14
                  clear c14
                  by_cases c15 : t164 = t158
                  · rw [if_pos c15] at H
                    have c15b0 : (t164 == t158) = true := beq_iff_eq.mpr c15
                    have c15b1 : (t164 != t158) = false := bne_eq_false_iff_eq.mpr c15
                    clear c15
                    have H' := Aside0.mk H
                    clear H
                    go_wp2_with (first | ((with_reducible refine gate_callee (f := 31) rfl ?_); refine goesL_ (some 49) rfl rfl Try.func31 (by kernel_rfl) rfl #[.int .i64 a0, .int .i64 a1, .int .i64 x11_2] rfl (by (try simp only [List.map_toArray, List.map_cons, List.map_nil]); first | done | rfl | (simp only [List.length_drop, List.length_take]; rfl)) ?_; (with_reducible refine (frac_Round.calls k2 a0 a1 x11_2 t164 t165 _ A13.out).mono ?_); rintro e w' ⟨rfl, ⟨nd, rfl⟩⟩; refine ⟨_, rfl, ?_⟩))
                    go_roundg k2
                    case measure => have := HJ4.out; have := HK2.out; omega
                    case rel => exact ⟨(wrap64 (x11_2 + 1)), (by first | rfl | (simp; done) | (simp [*]; done)), H', ⟨by have := HJ4.out; have := HK2.out; omega⟩, ⟨by repeat (first | (with_reducible first | exact HB.out | apply below_alloc | apply pw_below_drewN | apply below_drew1) | exact HB.out)⟩⟩
                  · rw [if_neg c15] at H
                    have c15b0 : (t164 == t158) = false := beq_eq_false_iff_ne.mpr c15
                    have c15b1 : (t164 != t158) = true := bne_iff_ne.mpr c15
                    by_cases c16 : t164 = t160
                    · rw [if_pos c16] at H
                      have c16b0 : (t164 == t160) = true := beq_iff_eq.mpr c16
                      have c16b1 : (t164 != t160) = false := bne_eq_false_iff_eq.mpr c16
                      clear c16
                      have H' := Aside0.mk H
                      clear H
                      go_wp2_with (first | ((with_reducible refine gate_callee (f := 31) rfl ?_); refine goesL_ (some 49) rfl rfl Try.func31 (by kernel_rfl) rfl #[.int .i64 a0, .int .i64 a1, .int .i64 x11_2] rfl (by (try simp only [List.map_toArray, List.map_cons, List.map_nil]); first | done | rfl | (simp only [List.length_drop, List.length_take]; rfl)) ?_; (with_reducible refine (frac_Round.calls k2 a0 a1 x11_2 t164 t165 _ A13.out).mono ?_); rintro e w' ⟨rfl, ⟨nd, rfl⟩⟩; refine ⟨_, rfl, ?_⟩))
                      go_roundg k2
                      case measure => have := HJ4.out; have := HK2.out; omega
                      case rel => exact ⟨(wrap64 (x11_2 + 1)), (by first | rfl | (simp; done) | (simp [*]; done)), H', ⟨by have := HJ4.out; have := HK2.out; omega⟩, ⟨by repeat (first | (with_reducible first | exact HB.out | apply below_alloc | apply pw_below_drewN | apply below_drew1) | exact HB.out)⟩⟩
                    · rw [if_neg c16] at H
                      have c16b0 : (t164 == t160) = false := beq_eq_false_iff_ne.mpr c16
                      have c16b1 : (t164 != t160) = true := bne_iff_ne.mpr c16
                      obtain rfl := Option.some.inj H
                      go_wp2_with (first | ((with_reducible refine gate_callee (f := 31) rfl ?_); refine goesL_ (some 49) rfl rfl Try.func31 (by kernel_rfl) rfl #[.int .i64 a0, .int .i64 a1, .int .i64 x11_2] rfl (by (try simp only [List.map_toArray, List.map_cons, List.map_nil]); first | done | rfl | (simp only [List.length_drop, List.length_take]; rfl)) ?_; (with_reducible refine (frac_Round.calls k2 a0 a1 x11_2 t164 t165 _ A13.out).mono ?_); rintro e w' ⟨rfl, ⟨nd, rfl⟩⟩; refine ⟨_, rfl, ?_⟩))
                      go_ret
                      exact ⟨by first | rfl | (simp [errW_none, errW_some] <;> rfl) | (simp [*, errW_none, errW_some] <;> rfl), by repeat (first | (with_reducible first | exact HB.out | apply below_alloc | apply pw_below_drewN | apply below_drew1) | exact HB.out)⟩
                · rw [if_neg c14] at H
                  have c14b0 : (t165 == 0) = false := beq_eq_false_iff_ne.mpr c14
                  have c14b1 : (t165 != 0) = true := bne_iff_ne.mpr c14
                  obtain rfl := Option.some.inj H
                  go_wp2_with (first | ((with_reducible refine gate_callee (f := 31) rfl ?_); refine goesL_ (some 49) rfl rfl Try.func31 (by kernel_rfl) rfl #[.int .i64 a0, .int .i64 a1, .int .i64 x11_2] rfl (by (try simp only [List.map_toArray, List.map_cons, List.map_nil]); first | done | rfl | (simp only [List.length_drop, List.length_take]; rfl)) ?_; (with_reducible refine (frac_Round.calls k2 a0 a1 x11_2 t164 t165 _ A13.out).mono ?_); rintro e w' ⟨rfl, ⟨nd, rfl⟩⟩; refine ⟨_, rfl, ?_⟩))
                  go_ret
                  exact ⟨by first | rfl | (simp [errW_none, errW_some] <;> rfl) | (simp [*, errW_none, errW_some] <;> rfl), by repeat (first | (with_reducible first | exact HB.out | apply below_alloc | apply pw_below_drewN | apply below_drew1) | exact HB.out)⟩
              · rw [if_neg c12] at H
                have c12b0 : decide (x11_2 ≤ 6) = false := decide_eq_false c12
                clear c12
                by_cases c17 : t162 = (wrap64 (-t160))
                · rw [if_pos c17] at H
                  have c17b0 : (t162 == (wrap64 (-t160))) = true := beq_iff_eq.mpr c17
                  have c17b1 : (t162 != (wrap64 (-t160))) = false := bne_eq_false_iff_eq.mpr c17
                  clear c17
                  by_cases c18 : a1 = 0
                  · rw [if_pos c18] at H
                    exact absurd H (by simp)
                  · rw [if_neg c18] at H
                    have c18b0 : (a1 == 0) = false := beq_eq_false_iff_ne.mpr c18
                    have c18b1 : (a1 != 0) = true := bne_iff_ne.mpr c18
                    by_cases c19 : (((Int.tmod a0 a1) == 0) == (t158 == t160)) = true
                    · rw [if_pos c19] at H
                      have c19b0 : (((Int.tmod a0 a1) == 0) == (t158 == t160)) = true := c19
                      (try (have c19b1 : decide (((Int.tmod a0 a1) == 0) = (t158 == t160)) = true := by simpa using c19))
                      (try (have c19b2 : (((Int.tmod a0 a1) == 0) == (t158 == t160)) = true := by simpa using c19))
                      clear c19
                      by_cases c20 : t158 = t160
                      · rw [if_pos c20] at H
                        have c20b0 : (t158 == t160) = true := beq_iff_eq.mpr c20
                        (try (first | (have c20xc19 : ((Int.tmod a0 a1) == 0) = true := by have z := c19b0; rw [c20b0] at z; revert z; cases ((Int.tmod a0 a1) == 0) <;> decide) | (have c20xc19 : ((Int.tmod a0 a1) == 0) = false := by have z := c19b0; rw [c20b0] at z; revert z; cases ((Int.tmod a0 a1) == 0) <;> decide)))
                        have c20b1 : (t158 != t160) = false := bne_eq_false_iff_eq.mpr c20
                        clear c20
                        obtain rfl := Option.some.inj H
                        go_wp2
                        go_ret
                        exact ⟨by first | rfl | (simp [errW_none, errW_some] <;> rfl) | (simp [*, errW_none, errW_some] <;> rfl), by repeat (first | (with_reducible first | exact HB.out | apply below_alloc | apply pw_below_drewN | apply below_drew1) | exact HB.out)⟩
                      · rw [if_neg c20] at H
                        have c20b0 : (t158 == t160) = false := beq_eq_false_iff_ne.mpr c20
                        (try (first | (have c20xc19 : ((Int.tmod a0 a1) == 0) = true := by have z := c19b0; rw [c20b0] at z; revert z; cases ((Int.tmod a0 a1) == 0) <;> decide) | (have c20xc19 : ((Int.tmod a0 a1) == 0) = false := by have z := c19b0; rw [c20b0] at z; revert z; cases ((Int.tmod a0 a1) == 0) <;> decide)))
                        have c20b1 : (t158 != t160) = true := bne_iff_ne.mpr c20
                        by_cases c21 : t158 < t160
                        · rw [if_pos c21] at H
                          have c21b0 : decide (t158 < t160) = true := decide_eq_true c21
                          clear c21
                          obtain rfl := Option.some.inj H
                          go_wp2
                          go_ret
                          exact ⟨by first | rfl | (simp [errW_none, errW_some] <;> rfl) | (simp [*, errW_none, errW_some] <;> rfl), by repeat (first | (with_reducible first | exact HB.out | apply below_alloc | apply pw_below_drewN | apply below_drew1) | exact HB.out)⟩
                        · rw [if_neg c21] at H
                          have c21b0 : decide (t158 < t160) = false := decide_eq_false c21
                          clear c21
                          obtain rfl := Option.some.inj H
                          go_wp2
                          go_ret
                          exact ⟨by first | rfl | (simp [errW_none, errW_some] <;> rfl) | (simp [*, errW_none, errW_some] <;> rfl), by repeat (first | (with_reducible first | exact HB.out | apply below_alloc | apply pw_below_drewN | apply below_drew1) | exact HB.out)⟩
                    · rw [if_neg c19] at H
                      have c19b0 : (((Int.tmod a0 a1) == 0) == (t158 == t160)) = false := by simpa using c19
                      (try (have c19b1 : decide (((Int.tmod a0 a1) == 0) = (t158 == t160)) = false := by simpa using c19))
                      (try (have c19b2 : (((Int.tmod a0 a1) == 0) == (t158 == t160)) = false := by simpa using c19))
                      (try (have c19b3 : ¬ (((Int.tmod a0 a1) == 0) = (t158 == t160)) := by simpa using c19))
                      clear c19
                      obtain rfl := Option.some.inj H
                      go_wp2
                      go_ret
                      exact ⟨by first | rfl | (simp [errW_none, errW_some] <;> rfl) | (simp [*, errW_none, errW_some] <;> rfl), by repeat (first | (with_reducible first | exact HB.out | apply below_alloc | apply pw_below_drewN | apply below_drew1) | exact HB.out)⟩
                · rw [if_neg c17] at H
                  have c17b0 : (t162 == (wrap64 (-t160))) = false := beq_eq_false_iff_ne.mpr c17
                  have c17b1 : (t162 != (wrap64 (-t160))) = true := bne_iff_ne.mpr c17
                  obtain rfl := Option.some.inj H
                  go_wp2
                  go_ret
                  exact ⟨by first | rfl | (simp [errW_none, errW_some] <;> rfl) | (simp [*, errW_none, errW_some] <;> rfl), by repeat (first | (with_reducible first | exact HB.out | apply below_alloc | apply pw_below_drewN | apply below_drew1) | exact HB.out)⟩
  · replace c4 := Bool.eq_false_iff.mpr c4
    subst c4
    have H1 : (some false) = some r := by rw [if_neg (show ¬ (false = true) by decide)] at H; exact H
    clear H
    have H := H1
    clear H1
    obtain rfl := Option.some.inj H
    go_enter Try.func9, Try.ntmps9
    go_wp2_with (first | ((with_reducible refine gate_callee (f := 30) rfl ?_); refine goesL_ (some 14) rfl rfl Try.func30 (by kernel_rfl) rfl #[] rfl (by (try simp only [List.map_toArray, List.map_cons, List.map_nil]); first | done | rfl | (simp only [List.length_drop, List.length_take]; rfl)) ?_; (with_reducible refine (stipendlaw02_parts.calls k  false _ A3.out).mono ?_); rintro e w22 ⟨rfl, hb⟩; refine ⟨_, rfl, ?_⟩; have n0_ := Aside0.mk (below_step (by repeat (first | (with_reducible first | exact HB.out | apply below_alloc | apply pw_below_drewN | apply below_drew1) | exact HB.out)) hb); clear HB; have HB := n0_; clear n0_; (try clear hb); (try clear hb2); (try clear hk); (try clear hi)))
    go_ret
    exact ⟨by first | rfl | (simp [errW_none, errW_some] <;> rfl) | (simp [*, errW_none, errW_some] <;> rfl), by repeat (first | (with_reducible first | exact HB.out | apply below_alloc | apply pw_below_drewN | apply below_drew1) | exact HB.out)⟩

/-- THE ONE PURE STATEMENT of stipendlaw02_FracModes: yours. -/
def stipendlaw02_FracModes.Pure : Prop := ∀ (a0 : Int) (a1 : Int), (Lit.int .i64 a0).wf = true → (Lit.int .i64 a1).wf = true → ∃ k, stipendlaw02_FracModes.f k a0 a1 = some true
theorem stipendlaw02_FracModes.walk (P : stipendlaw02_FracModes.Pure) (a0 : Int) (a1 : Int) (w : World) (w0 : (Lit.int .i64 a0).wf = true) (w1 : (Lit.int .i64 a1).wf = true) :
    Calls Try.prog 9 #[.int .i64 a0, .int .i64 a1] w fun e w' => e = .returned (.bool true) ∧ Below w.heap.size w w' := by
  obtain ⟨k, h⟩ := P a0 a1 w0 w1
  refine (stipendlaw02_FracModes.calls k a0 a1 true w h).mono ?_
  rintro e w' ⟨rfl, hd⟩
  exact ⟨rfl, hd⟩

end Go.Proofs.Ytfiomckebicphaa.X
