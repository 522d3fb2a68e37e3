-- laid by the session's own program (xprint.py) out of Lean's print of the program; Lean checks it
import Derived.Test.YtfiomckebicphaaX0
import Derived.Test.YtfiomckebicphaaX3
import Derived.Test.YtfiomckebicphaaX4
import Derived.Test.YtfiomckebicphaaX7
import Derived.Test.YtfiomckebicphaaX8
namespace Go.Proofs.Ytfiomckebicphaa.X
open Go.RowKit Go.Proofs.YtfiomckebicphaaW.PrintWords Go.Proofs.YtfiomckebicphaaW.PrintLast Go.Proofs.YtfiomckebicphaaW.PrintMore
attribute [local go_sem] max2_int min2_int max_two min_two max_three min_three max_four min_four   -- for this text's walks alone
set_option linter.unusedVariables false
set_option linter.unusedSimpArgs false

/-! ### stipendlaw02_FracParts: function 14 -/
mutual
def stipendlaw02_FracParts.j0 : Nat → Int → Int → Int → Int → Int → Int → Int → Bool → Option (Bool)
  | 0, _, _, _, _, _, _, _, _ => none
  | k + 1, x0, x1, x2, x7, x8, x9, x10, x11 => if x11 = true then (if x1 < 0 then (if x8 = 50 then (if x10 = 50 then (if x7 = 0 then (some (x9 == 0)) else (some false)) else (some false)) else (some false)) else (if x1 > 10000 then (if x8 = 50 then (if x10 = 50 then (if x7 = 0 then (some (x9 == 0)) else (some false)) else (some false)) else (some false)) else (if x8 = 0 then (stipendlaw02_FracParts.j1 k x0 x1 x2 x7 x9 x10 (x7 != (wrap64 (x0 * x1)))) else (stipendlaw02_FracParts.j1 k x0 x1 x2 x7 x9 x10 true)))) else (if x8 = 10 then (if x10 = 10 then (if x7 = 0 then (some (x9 == 0)) else (some false)) else (some false)) else (some false))
def stipendlaw02_FracParts.j1 : Nat → Int → Int → Int → Int → Int → Int → Bool → Option (Bool)
  | 0, _, _, _, _, _, _, _ => none
  | k + 1, x0, x1, x2, x7, x9, x10, x86 => if x86 = true then (some false) else ((frac_Part.f k x0 (wrap64 (10000 - x1))).bind fun bt194 => ((frac_Of.f k x0).bind fun bt196 => ((frac_Add.f k (([x7, bt194.1] : List Int))).bind fun bt201 => (if (wrap64 ((wrap64 (bt194.2 + bt196.2)) + bt201.2)) = 0 then (if bt201.1 = bt196.1 then ((frac_Right.f x7).bind fun t203 => (stipendlaw02_FracParts.j2 k x2 x7 x9 x10 (!t203))) else (stipendlaw02_FracParts.j2 k x2 x7 x9 x10 true)) else (stipendlaw02_FracParts.j2 k x2 x7 x9 x10 true)))))
def stipendlaw02_FracParts.j2 : Nat → Int → Int → Int → Int → Bool → Option (Bool)
  | 0, _, _, _, _, _ => none
  | k + 1, x2, x7, x9, x10, x121 => if x121 = true then (some false) else (if x2 < 1 then (if x10 = 1 then (some (x9 == 0)) else (some false)) else (if x2 > 6 then (if x10 = 1 then (some (x9 == 0)) else (some false)) else (if x10 = 0 then (if (wrap64 (x7 - (wrap64 (10000 * x9)))) > (-10000) then (some (decide ((wrap64 (x7 - (wrap64 (10000 * x9)))) < 10000))) else (some false)) else (some false))))
end
def stipendlaw02_FracParts.f (k : Nat) (a0 : Int) (a1 : Int) (a2 : Int) : Option (Bool) := (stipendlaw02_parts.f k).bind fun t189 => (if t189 = true then ((frac_Part.f k a0 a1).bind fun bt190 => ((frac_Take.f k a0 a1 a2).bind fun bt192 => (if a0 ≥ (-100000000000) then (stipendlaw02_FracParts.j0 k a0 a1 a2 bt190.1 bt190.2 bt192.1 bt192.2 (decide (a0 ≤ 100000000000))) else (stipendlaw02_FracParts.j0 k a0 a1 a2 bt190.1 bt190.2 bt192.1 bt192.2 false)))) else (some false))
theorem stipendlaw02_FracParts.mono_l : ∀ k, (∀ y0 y1 y2 y3 y4 y5 y6 y7, LeO (stipendlaw02_FracParts.j0 k y0 y1 y2 y3 y4 y5 y6 y7) (stipendlaw02_FracParts.j0 (k + 1) y0 y1 y2 y3 y4 y5 y6 y7)) ∧ (∀ y0 y1 y2 y3 y4 y5 y6, LeO (stipendlaw02_FracParts.j1 k y0 y1 y2 y3 y4 y5 y6) (stipendlaw02_FracParts.j1 (k + 1) y0 y1 y2 y3 y4 y5 y6)) ∧ (∀ y0 y1 y2 y3 y4, LeO (stipendlaw02_FracParts.j2 k y0 y1 y2 y3 y4) (stipendlaw02_FracParts.j2 (k + 1) y0 y1 y2 y3 y4))
  | 0 => ⟨fun _ _ _ _ _ _ _ _ r h => by simp [stipendlaw02_FracParts.j0] at h, fun _ _ _ _ _ _ _ r h => by simp [stipendlaw02_FracParts.j1] at h, fun _ _ _ _ _ r h => by simp [stipendlaw02_FracParts.j2] at h⟩
  | k + 1 => by
    obtain ⟨ih0, ih1, ih2⟩ := stipendlaw02_FracParts.mono_l k
    refine ⟨?_, ?_, ?_⟩
    · intro y0 y1 y2 y3 y4 y5 y6 y7
      unfold stipendlaw02_FracParts.j0
      repeat' first
      | (with_reducible exact ih0 _ _ _ _ _ _ _ _)
      | (with_reducible exact ih1 _ _ _ _ _ _ _)
      | (with_reducible exact ih2 _ _ _ _ _)
      | (with_reducible exact frac_Add.mono _ _)
      | (with_reducible exact frac_Of.mono _ _)
      | (with_reducible exact frac_Part.mono _ _ _)
      | (with_reducible exact frac_Take.mono _ _ _ _)
      | (with_reducible exact stipendlaw02_parts.mono _)
      | (with_reducible exact LeO.refl _)
      | (with_reducible exact LeO.none _)
      | (with_reducible refine LeO.ite ?_ ?_)
      | (with_reducible refine LeO.bind ?_ (fun _ => ?_))
      | exact ih0 _ _ _ _ _ _ _ _
      | exact ih1 _ _ _ _ _ _ _
      | exact ih2 _ _ _ _ _
      | exact frac_Add.mono _ _
      | exact frac_Of.mono _ _
      | exact frac_Part.mono _ _ _
      | exact frac_Take.mono _ _ _ _
      | exact stipendlaw02_parts.mono _
      | exact LeO.none _
      | refine LeO.ite ?_ ?_
      | refine LeO.bind ?_ (fun _ => ?_)
    · intro y0 y1 y2 y3 y4 y5 y6
      unfold stipendlaw02_FracParts.j1
      repeat' first
      | (with_reducible exact ih0 _ _ _ _ _ _ _ _)
      | (with_reducible exact ih1 _ _ _ _ _ _ _)
      | (with_reducible exact ih2 _ _ _ _ _)
      | (with_reducible exact frac_Add.mono _ _)
      | (with_reducible exact frac_Of.mono _ _)
      | (with_reducible exact frac_Part.mono _ _ _)
      | (with_reducible exact frac_Take.mono _ _ _ _)
      | (with_reducible exact stipendlaw02_parts.mono _)
      | (with_reducible exact LeO.refl _)
      | (with_reducible exact LeO.none _)
      | (with_reducible refine LeO.ite ?_ ?_)
      | (with_reducible refine LeO.bind ?_ (fun _ => ?_))
      | exact ih0 _ _ _ _ _ _ _ _
      | exact ih1 _ _ _ _ _ _ _
      | exact ih2 _ _ _ _ _
      | exact frac_Add.mono _ _
      | exact frac_Of.mono _ _
      | exact frac_Part.mono _ _ _
      | exact frac_Take.mono _ _ _ _
      | exact stipendlaw02_parts.mono _
      | exact LeO.none _
      | refine LeO.ite ?_ ?_
      | refine LeO.bind ?_ (fun _ => ?_)
    · intro y0 y1 y2 y3 y4
      unfold stipendlaw02_FracParts.j2
      repeat' first
      | (with_reducible exact ih0 _ _ _ _ _ _ _ _)
      | (with_reducible exact ih1 _ _ _ _ _ _ _)
      | (with_reducible exact ih2 _ _ _ _ _)
      | (with_reducible exact frac_Add.mono _ _)
      | (with_reducible exact frac_Of.mono _ _)
      | (with_reducible exact frac_Part.mono _ _ _)
      | (with_reducible exact frac_Take.mono _ _ _ _)
      | (with_reducible exact stipendlaw02_parts.mono _)
      | (with_reducible exact LeO.refl _)
      | (with_reducible exact LeO.none _)
      | (with_reducible refine LeO.ite ?_ ?_)
      | (with_reducible refine LeO.bind ?_ (fun _ => ?_))
      | exact ih0 _ _ _ _ _ _ _ _
      | exact ih1 _ _ _ _ _ _ _
      | exact ih2 _ _ _ _ _
      | exact frac_Add.mono _ _
      | exact frac_Of.mono _ _
      | exact frac_Part.mono _ _ _
      | exact frac_Take.mono _ _ _ _
      | exact stipendlaw02_parts.mono _
      | exact LeO.none _
      | refine LeO.ite ?_ ?_
      | refine LeO.bind ?_ (fun _ => ?_)
theorem stipendlaw02_FracParts.mono : ∀ a0 a1 a2 k, LeO (stipendlaw02_FracParts.f k a0 a1 a2) (stipendlaw02_FracParts.f (k + 1) a0 a1 a2) := by
  intro a0 a1 a2 k
  obtain ⟨ih0, ih1, ih2⟩ := stipendlaw02_FracParts.mono_l k
  unfold stipendlaw02_FracParts.f
  repeat' first
      | (with_reducible exact ih0 _ _ _ _ _ _ _ _)
      | (with_reducible exact ih1 _ _ _ _ _ _ _)
      | (with_reducible exact ih2 _ _ _ _ _)
      | (with_reducible exact frac_Add.mono _ _)
      | (with_reducible exact frac_Of.mono _ _)
      | (with_reducible exact frac_Part.mono _ _ _)
      | (with_reducible exact frac_Take.mono _ _ _ _)
      | (with_reducible exact stipendlaw02_parts.mono _)
      | (with_reducible exact LeO.refl _)
      | (with_reducible exact LeO.none _)
      | (with_reducible refine LeO.ite ?_ ?_)
      | (with_reducible refine LeO.bind ?_ (fun _ => ?_))
      | exact ih0 _ _ _ _ _ _ _ _
      | exact ih1 _ _ _ _ _ _ _
      | exact ih2 _ _ _ _ _
      | exact frac_Add.mono _ _
      | exact frac_Of.mono _ _
      | exact frac_Part.mono _ _ _
      | exact frac_Take.mono _ _ _ _
      | exact stipendlaw02_parts.mono _
      | exact LeO.none _
      | refine LeO.ite ?_ ?_
      | refine LeO.bind ?_ (fun _ => ?_)
set_option maxHeartbeats 8000000 in
set_option maxRecDepth 100000 in
theorem stipendlaw02_FracParts.calls (k : Nat) (a0 : Int) (a1 : Int) (a2 : Int) (r : Bool) (w : World) (h : stipendlaw02_FracParts.f k a0 a1 a2 = some r) :
    Calls Try.prog 14 #[.int .i64 a0, .int .i64 a1, .int .i64 a2] w fun e w' => e = .returned (.bool r) ∧ Below w.heap.size w w' := by
  have HB := Aside0.mk (Below.refl w.heap.size w)
  have H : ((stipendlaw02_parts.f k).bind fun t189 => (if t189 = true then ((frac_Part.f k a0 a1).bind fun bt190 => ((frac_Take.f k a0 a1 a2).bind fun bt192 => (if a0 ≥ (-100000000000) then (stipendlaw02_FracParts.j0 k a0 a1 a2 bt190.1 bt190.2 bt192.1 bt192.2 (decide (a0 ≤ 100000000000))) else (stipendlaw02_FracParts.j0 k a0 a1 a2 bt190.1 bt190.2 bt192.1 bt192.2 false)))) else (some false))) = some r := h
  clear h
  replace H := Option.bind_eq_some_iff.mp H
  obtain ⟨t189, A40, H⟩ := H
  replace H : (if t189 = true then ((frac_Part.f k a0 a1).bind fun bt190 => ((frac_Take.f k a0 a1 a2).bind fun bt192 => (if a0 ≥ (-100000000000) then (stipendlaw02_FracParts.j0 k a0 a1 a2 bt190.1 bt190.2 bt192.1 bt192.2 (decide (a0 ≤ 100000000000))) else (stipendlaw02_FracParts.j0 k a0 a1 a2 bt190.1 bt190.2 bt192.1 bt192.2 false)))) else (some false)) = some r := H
  have A4 := Aside0.mk A40
  clear A40
  by_cases c5 : t189 = true
  · subst c5
    have H1 : ((frac_Part.f k a0 a1).bind fun bt190 => ((frac_Take.f k a0 a1 a2).bind fun bt192 => (if a0 ≥ (-100000000000) then (stipendlaw02_FracParts.j0 k a0 a1 a2 bt190.1 bt190.2 bt192.1 bt192.2 (decide (a0 ≤ 100000000000))) else (stipendlaw02_FracParts.j0 k a0 a1 a2 bt190.1 bt190.2 bt192.1 bt192.2 false)))) = some r := by rw [if_pos rfl] at H; exact H
    clear H
    have H := H1
    clear H1
    replace H := Option.bind_eq_some_iff.mp H
    obtain ⟨⟨t190, t191⟩, A60, H⟩ := H
    replace H : ((frac_Take.f k a0 a1 a2).bind fun bt192 => (if a0 ≥ (-100000000000) then (stipendlaw02_FracParts.j0 k a0 a1 a2 t190 t191 bt192.1 bt192.2 (decide (a0 ≤ 100000000000))) else (stipendlaw02_FracParts.j0 k a0 a1 a2 t190 t191 bt192.1 bt192.2 false))) = some r := H
    have A6 := Aside0.mk A60
    clear A60
    replace H := Option.bind_eq_some_iff.mp H
    obtain ⟨⟨t192, t193⟩, A70, H⟩ := H
    replace H : (if a0 ≥ (-100000000000) then (stipendlaw02_FracParts.j0 k a0 a1 a2 t190 t191 t192 t193 (decide (a0 ≤ 100000000000))) else (stipendlaw02_FracParts.j0 k a0 a1 a2 t190 t191 t192 t193 false)) = some r := H
    have A7 := Aside0.mk A70
    clear A70
    have HC8 := Aside0.mk H
    clear H
    go_enter Try.func14, Try.ntmps14
    go_upto_region 5 with (first | ((with_reducible refine gate_callee (f := 30) rfl ?_); refine goesL_ (some 19) rfl rfl Try.func30 (by kernel_rfl) rfl #[] rfl (by (try simp only [List.map_toArray, List.map_cons, List.map_nil]); first | done | rfl | (simp only [List.length_drop, List.length_take]; rfl)) ?_; (with_reducible refine (stipendlaw02_parts.calls k  true _ A4.out).mono ?_); rintro e w9 ⟨rfl, hb⟩; refine ⟨_, rfl, ?_⟩; have n0_ := Aside0.mk (below_step (by repeat (first | (with_reducible first | exact HB.out | apply below_alloc | apply pw_below_drewN | apply below_drew1) | exact HB.out)) hb); clear HB; have HB := n0_; clear n0_; (try clear hb); (try clear hb2); (try clear hk); (try clear hi)) | ((with_reducible refine gate_callee (f := 38) rfl ?_); refine goesL_ (some 24) rfl rfl Try.func38 (by kernel_rfl) rfl #[.int .i64 a0, .int .i64 a1] rfl (by (try simp only [List.map_toArray, List.map_cons, List.map_nil]); first | done | rfl | (simp only [List.length_drop, List.length_take]; rfl)) ?_; (with_reducible refine (frac_Part.calls k a0 a1 t190 t191 _ A6.out).mono ?_); rintro e w10 ⟨rfl, hb⟩; refine ⟨_, rfl, ?_⟩; have n0_ := Aside0.mk (below_step (by repeat (first | (with_reducible first | exact HB.out | apply below_alloc | apply pw_below_drewN | apply below_drew1) | exact HB.out)) hb); clear HB; have HB := n0_; clear n0_; (try clear hb); (try clear hb2); (try clear hk); (try clear hi)) | ((with_reducible refine gate_callee (f := 39) rfl ?_); refine goesL_ (some 31) rfl rfl Try.func39 (by kernel_rfl) rfl #[.int .i64 a0, .int .i64 a1, .int .i64 a2] rfl (by (try simp only [List.map_toArray, List.map_cons, List.map_nil]); first | done | rfl | (simp only [List.length_drop, List.length_take]; rfl)) ?_; (with_reducible refine (frac_Take.calls k a0 a1 a2 t192 t193 _ A7.out).mono ?_); rintro e w11 ⟨rfl, hb⟩; refine ⟨_, rfl, ?_⟩; have n0_ := Aside0.mk (below_step (by repeat (first | (with_reducible first | exact HB.out | apply below_alloc | apply pw_below_drewN | apply below_drew1) | exact HB.out)) hb); clear HB; have HB := n0_; clear n0_; (try clear hb); (try clear hb2); (try clear hk); (try clear hi)))
    (try simp only [Act.put, List.setIfInBounds_toArray, List.set_cons_zero, List.set_cons_succ])
    go_cut [11] (fun v11 wc => ∃ (kq : Nat) (x11_7 : Bool), v11 = .bool x11_7 ∧ Aside0 (stipendlaw02_FracParts.j0 kq a0 a1 a2 t190 t191 t192 t193 x11_7 = some r) ∧ Aside0 (kq ≤ k) ∧ Aside0 (Below w.heap.size w wc))
    case first =>
      have H := HC8.out
      clear HC8
      by_cases c12 : a0 ≥ (-100000000000)
      · rw [if_pos c12] at H
        have c12b0 : decide ((-100000000000) ≤ a0) = true := decide_eq_true c12
        clear c12
        (first | rw [c12b0] | (simp only [i64_w, i32_w]; rw [c12b0]) | skip)
        have H' := Aside0.mk H
        clear H
        go_wp2
        go_meet
        case rel => exact ⟨_, (decide (a0 ≤ 100000000000)), (by first | rfl | (simp; done) | (simp [*]; done)), H', ⟨by first | omega | exact Nat.le_refl _⟩, ⟨by repeat (first | (with_reducible first | exact HB.out | apply below_alloc | apply pw_below_drewN | apply below_drew1) | exact HB.out)⟩⟩
      · rw [if_neg c12] at H
        have c12b0 : decide ((-100000000000) ≤ a0) = false := decide_eq_false c12
        clear c12
        (first | rw [c12b0] | (simp only [i64_w, i32_w]; rw [c12b0]) | skip)
        have H' := Aside0.mk H
        clear H
        go_wp2
        go_meet
        case rel => exact ⟨_, (false), (by first | rfl | (simp; done) | (simp [*]; done)), H', ⟨by first | omega | exact Nat.le_refl _⟩, ⟨by repeat (first | (with_reducible first | exact HB.out | apply below_alloc | apply pw_below_drewN | apply below_drew1) | exact HB.out)⟩⟩
    case rest =>
      clear HC8
      try clear c1
      try clear p2
      try clear c3
      try clear c5
      try clear c12
      try clear c12b0
      obtain ⟨kq, x11_7, rfl, HA, HJ7, HB⟩ := hcut
      cases kq with
      | zero => exact absurd HA.out (by simp [stipendlaw02_FracParts.j0])
      | succ kj7 =>
        have H := HA.out
        clear HA
        simp only [stipendlaw02_FracParts.j0] at H
        by_cases c13 : x11_7 = true
        · subst c13
          have H1 : (if a1 < 0 then (if t191 = 50 then (if t193 = 50 then (if t190 = 0 then (some (t192 == 0)) else (some false)) else (some false)) else (some false)) else (if a1 > 10000 then (if t191 = 50 then (if t193 = 50 then (if t190 = 0 then (some (t192 == 0)) else (some false)) else (some false)) else (some false)) else (if t191 = 0 then (stipendlaw02_FracParts.j1 kj7 a0 a1 a2 t190 t192 t193 (t190 != (wrap64 (a0 * a1)))) else (stipendlaw02_FracParts.j1 kj7 a0 a1 a2 t190 t192 t193 true)))) = some r := by rw [if_pos rfl] at H; exact H
          clear H
          have H := H1
          clear H1
          by_cases c14 : a1 < 0
          · rw [if_pos c14] at H
            have c14b0 : decide (a1 < 0) = true := decide_eq_true c14
            clear c14
            by_cases c15 : t191 = 50
            · rw [if_pos c15] at H
              have c15b0 : (t191 == 50) = true := beq_iff_eq.mpr c15
              have c15b1 : (t191 != 50) = false := bne_eq_false_iff_eq.mpr c15
              clear c15
              by_cases c16 : t193 = 50
              · rw [if_pos c16] at H
                have c16b0 : (t193 == 50) = true := beq_iff_eq.mpr c16
                have c16b1 : (t193 != 50) = false := bne_eq_false_iff_eq.mpr c16
                clear c16
                by_cases c17 : t190 = 0
                · rw [if_pos c17] at H
                  have c17b0 : (t190 == 0) = true := beq_iff_eq.mpr c17
                  have c17b1 : (t190 != 0) = false := bne_eq_false_iff_eq.mpr c17
                  clear c17
                  obtain rfl := Option.some.inj H
                  go_wp2
                  go_ret
                  exact ⟨by first | rfl | (simp [errW_none, errW_some] <;> rfl) | (simp [*, errW_none, errW_some] <;> rfl), by repeat (first | (with_reducible first | exact HB.out | apply below_alloc | apply pw_below_drewN | apply below_drew1) | exact HB.out)⟩
                · rw [if_neg c17] at H
                  have c17b0 : (t190 == 0) = false := beq_eq_false_iff_ne.mpr c17
                  have c17b1 : (t190 != 0) = true := bne_iff_ne.mpr c17
                  obtain rfl := Option.some.inj H
                  go_wp2
                  go_ret
                  exact ⟨by first | rfl | (simp [errW_none, errW_some] <;> rfl) | (simp [*, errW_none, errW_some] <;> rfl), by repeat (first | (with_reducible first | exact HB.out | apply below_alloc | apply pw_below_drewN | apply below_drew1) | exact HB.out)⟩
              · rw [if_neg c16] at H
                have c16b0 : (t193 == 50) = false := beq_eq_false_iff_ne.mpr c16
                have c16b1 : (t193 != 50) = true := bne_iff_ne.mpr c16
                obtain rfl := Option.some.inj H
                go_wp2
                go_ret
                exact ⟨by first | rfl | (simp [errW_none, errW_some] <;> rfl) | (simp [*, errW_none, errW_some] <;> rfl), by repeat (first | (with_reducible first | exact HB.out | apply below_alloc | apply pw_below_drewN | apply below_drew1) | exact HB.out)⟩
            · rw [if_neg c15] at H
              have c15b0 : (t191 == 50) = false := beq_eq_false_iff_ne.mpr c15
              have c15b1 : (t191 != 50) = true := bne_iff_ne.mpr c15
              obtain rfl := Option.some.inj H
              go_wp2
              go_ret
              exact ⟨by first | rfl | (simp [errW_none, errW_some] <;> rfl) | (simp [*, errW_none, errW_some] <;> rfl), by repeat (first | (with_reducible first | exact HB.out | apply below_alloc | apply pw_below_drewN | apply below_drew1) | exact HB.out)⟩
          · rw [if_neg c14] at H
            have c14b0 : decide (a1 < 0) = false := decide_eq_false c14
            clear c14
            by_cases c18 : a1 > 10000
            · rw [if_pos c18] at H
              have c18b0 : decide (10000 < a1) = true := decide_eq_true c18
              clear c18
              by_cases c19 : t191 = 50
              · rw [if_pos c19] at H
                have c19b0 : (t191 == 50) = true := beq_iff_eq.mpr c19
                have c19b1 : (t191 != 50) = false := bne_eq_false_iff_eq.mpr c19
                clear c19
                by_cases c20 : t193 = 50
                · rw [if_pos c20] at H
                  have c20b0 : (t193 == 50) = true := beq_iff_eq.mpr c20
                  have c20b1 : (t193 != 50) = false := bne_eq_false_iff_eq.mpr c20
                  clear c20
                  by_cases c21 : t190 = 0
                  · rw [if_pos c21] at H
                    have c21b0 : (t190 == 0) = true := beq_iff_eq.mpr c21
                    have c21b1 : (t190 != 0) = false := bne_eq_false_iff_eq.mpr c21
                    clear c21
                    obtain rfl := Option.some.inj H
                    go_wp2
                    go_ret
                    exact ⟨by first | rfl | (simp [errW_none, errW_some] <;> rfl) | (simp [*, errW_none, errW_some] <;> rfl), by repeat (first | (with_reducible first | exact HB.out | apply below_alloc | apply pw_below_drewN | apply below_drew1) | exact HB.out)⟩
                  · rw [if_neg c21] at H
                    have c21b0 : (t190 == 0) = false := beq_eq_false_iff_ne.mpr c21
                    have c21b1 : (t190 != 0) = true := bne_iff_ne.mpr c21
                    obtain rfl := Option.some.inj H
                    go_wp2
                    go_ret
                    exact ⟨by first | rfl | (simp [errW_none, errW_some] <;> rfl) | (simp [*, errW_none, errW_some] <;> rfl), by repeat (first | (with_reducible first | exact HB.out | apply below_alloc | apply pw_below_drewN | apply below_drew1) | exact HB.out)⟩
                · rw [if_neg c20] at H
                  have c20b0 : (t193 == 50) = false := beq_eq_false_iff_ne.mpr c20
                  have c20b1 : (t193 != 50) = true := bne_iff_ne.mpr c20
                  obtain rfl := Option.some.inj H
                  go_wp2
                  go_ret
                  exact ⟨by first | rfl | (simp [errW_none, errW_some] <;> rfl) | (simp [*, errW_none, errW_some] <;> rfl), by repeat (first | (with_reducible first | exact HB.out | apply below_alloc | apply pw_below_drewN | apply below_drew1) | exact HB.out)⟩
              · rw [if_neg c19] at H
                have c19b0 : (t191 == 50) = false := beq_eq_false_iff_ne.mpr c19
                have c19b1 : (t191 != 50) = true := bne_iff_ne.mpr c19
                obtain rfl := Option.some.inj H
                go_wp2
                go_ret
                exact ⟨by first | rfl | (simp [errW_none, errW_some] <;> rfl) | (simp [*, errW_none, errW_some] <;> rfl), by repeat (first | (with_reducible first | exact HB.out | apply below_alloc | apply pw_below_drewN | apply below_drew1) | exact HB.out)⟩
            · rw [if_neg c18] at H
              have c18b0 : decide (10000 < a1) = false := decide_eq_false c18
              clear c18
              have HC22 := Aside0.mk H
              clear H
              go_upto_region 10 with (fail)
              go_cut [86] (fun v86 wc => ∃ (kq : Nat) (x86_21 : Bool), v86 = .bool x86_21 ∧ Aside0 (stipendlaw02_FracParts.j1 kq a0 a1 a2 t190 t192 t193 x86_21 = some r) ∧ Aside0 (kq ≤ kj7) ∧ Aside0 (Below w.heap.size w wc))
              case first =>
                have H := HC22.out
                clear HC22
                by_cases c23 : t191 = 0
                · rw [if_pos c23] at H
                  have c23b0 : (t191 == 0) = true := beq_iff_eq.mpr c23
                  have c23b1 : (t191 != 0) = false := bne_eq_false_iff_eq.mpr c23
                  clear c23
                  (first | rw [c23b0] | (simp only [i64_w, i32_w]; rw [c23b0]) | skip)
                  have H' := Aside0.mk H
                  clear H
                  go_wp2
                  go_meet
                  case rel => exact ⟨_, ((t190 != (wrap64 (a0 * a1)))), (by first | rfl | (simp; done) | (simp [*]; done)), H', ⟨by have := HJ7.out; first | omega | exact Nat.le_refl _⟩, ⟨by repeat (first | (with_reducible first | exact HB.out | apply below_alloc | apply pw_below_drewN | apply below_drew1) | exact HB.out)⟩⟩
                · rw [if_neg c23] at H
                  have c23b0 : (t191 == 0) = false := beq_eq_false_iff_ne.mpr c23
                  have c23b1 : (t191 != 0) = true := bne_iff_ne.mpr c23
                  (first | rw [c23b0] | (simp only [i64_w, i32_w]; rw [c23b0]) | skip)
                  have H' := Aside0.mk H
                  clear H
                  go_wp2
                  go_meet
                  case rel => exact ⟨_, (true), (by first | rfl | (simp; done) | (simp [*]; done)), H', ⟨by have := HJ7.out; first | omega | exact Nat.le_refl _⟩, ⟨by repeat (first | (with_reducible first | exact HB.out | apply below_alloc | apply pw_below_drewN | apply below_drew1) | exact HB.out)⟩⟩
              case rest =>
                clear HC22
                try clear c1
                try clear c2
                try clear p2
                try clear c3
                try clear c5
                try clear p6
                try clear c12
                try clear c12b0
                try clear c13
                try clear c14
                try clear c14b0
                try clear c15
                try clear c15b0
                try clear c15b1
                try clear c16
                try clear c16b0
                try clear c16b1
                try clear c17
                try clear c17b0
                try clear c17b1
                try clear c18
                try clear c18b0
                try clear c19
                try clear c19b0
                try clear c19b1
                try clear c20
                try clear c20b0
                try clear c20b1
                try clear c21
                try clear c21b0
                try clear c21b1
                try clear c23
                try clear c23b0
                try clear c23b1
                try clear p2
                obtain ⟨kq, x86_21, rfl, HA, HJ21, HB⟩ := hcut
                cases kq with
                | zero => exact absurd HA.out (by simp [stipendlaw02_FracParts.j1])
                | succ kj21 =>
                  have H := HA.out
                  clear HA
                  simp only [stipendlaw02_FracParts.j1] at H
                  by_cases c24 : x86_21 = true
                  · subst c24
                    have H1 : (some false) = some r := by rw [if_pos rfl] at H; exact H
                    clear H
                    have H := H1
                    clear H1
                    obtain rfl := Option.some.inj H
                    go_wp2
                    go_ret
                    exact ⟨by first | rfl | (simp [errW_none, errW_some] <;> rfl) | (simp [*, errW_none, errW_some] <;> rfl), by repeat (first | (with_reducible first | exact HB.out | apply below_alloc | apply pw_below_drewN | apply below_drew1) | exact HB.out)⟩
                  · replace c24 := Bool.eq_false_iff.mpr c24
                    subst c24
                    have H1 : ((frac_Part.f kj21 a0 (wrap64 (10000 - a1))).bind fun bt194 => ((frac_Of.f kj21 a0).bind fun bt196 => ((frac_Add.f kj21 (([t190, bt194.1] : List Int))).bind fun bt201 => (if (wrap64 ((wrap64 (bt194.2 + bt196.2)) + bt201.2)) = 0 then (if bt201.1 = bt196.1 then ((frac_Right.f t190).bind fun t203 => (stipendlaw02_FracParts.j2 kj21 a2 t190 t192 t193 (!t203))) else (stipendlaw02_FracParts.j2 kj21 a2 t190 t192 t193 true)) else (stipendlaw02_FracParts.j2 kj21 a2 t190 t192 t193 true))))) = some r := by rw [if_neg (show ¬ (false = true) by decide)] at H; exact H
                    clear H
                    have H := H1
                    clear H1
                    replace H := Option.bind_eq_some_iff.mp H
                    obtain ⟨⟨t194, t195⟩, A250, H⟩ := H
                    replace H : ((frac_Of.f kj21 a0).bind fun bt196 => ((frac_Add.f kj21 (([t190, t194] : List Int))).bind fun bt201 => (if (wrap64 ((wrap64 (t195 + bt196.2)) + bt201.2)) = 0 then (if bt201.1 = bt196.1 then ((frac_Right.f t190).bind fun t203 => (stipendlaw02_FracParts.j2 kj21 a2 t190 t192 t193 (!t203))) else (stipendlaw02_FracParts.j2 kj21 a2 t190 t192 t193 true)) else (stipendlaw02_FracParts.j2 kj21 a2 t190 t192 t193 true)))) = some r := H
                    have A25 := Aside0.mk A250
                    clear A250
                    replace H := Option.bind_eq_some_iff.mp H
                    obtain ⟨⟨t196, t197⟩, A260, H⟩ := H
                    replace H : ((frac_Add.f kj21 (([t190, t194] : List Int))).bind fun bt201 => (if (wrap64 ((wrap64 (t195 + t197)) + bt201.2)) = 0 then (if bt201.1 = t196 then ((frac_Right.f t190).bind fun t203 => (stipendlaw02_FracParts.j2 kj21 a2 t190 t192 t193 (!t203))) else (stipendlaw02_FracParts.j2 kj21 a2 t190 t192 t193 true)) else (stipendlaw02_FracParts.j2 kj21 a2 t190 t192 t193 true))) = some r := H
                    have A26 := Aside0.mk A260
                    clear A260
                    obtain ⟨y198, hy198⟩ : ∃ y_ : List Int, y_ = (([t190, t194] : List Int)) := ⟨_, rfl⟩
                    replace H : ((frac_Add.f kj21 y198).bind fun bt201 => (if (wrap64 ((wrap64 (t195 + t197)) + bt201.2)) = 0 then (if bt201.1 = t196 then ((frac_Right.f t190).bind fun t203 => (stipendlaw02_FracParts.j2 kj21 a2 t190 t192 t193 (!t203))) else (stipendlaw02_FracParts.j2 kj21 a2 t190 t192 t193 true)) else (stipendlaw02_FracParts.j2 kj21 a2 t190 t192 t193 true))) = some r := by first | (rw [hy198]; with_reducible exact H) | (have H2_ := (Option.bind_some _ _).symm.trans H; rw [hy198]; with_reducible exact H2_) | (have H2_ := (Option.bind_some _ _).symm.trans H; with_reducible exact H2_) | with_reducible exact H | (rw [hy198]; exact H) | exact H
                    have Ny198 := Aside0.mk hy198
                    clear hy198
                    replace H := Option.bind_eq_some_iff.mp H
                    obtain ⟨⟨t201, t202⟩, A270, H⟩ := H
                    replace H : (if (wrap64 ((wrap64 (t195 + t197)) + t202)) = 0 then (if t201 = t196 then ((frac_Right.f t190).bind fun t203 => (stipendlaw02_FracParts.j2 kj21 a2 t190 t192 t193 (!t203))) else (stipendlaw02_FracParts.j2 kj21 a2 t190 t192 t193 true)) else (stipendlaw02_FracParts.j2 kj21 a2 t190 t192 t193 true)) = some r := H
                    have A27 := Aside0.mk A270
                    clear A270
                    have HC28 := Aside0.mk H
                    clear H
                    go_upto_region 15 with (first | ((with_reducible refine gate_callee (f := 38) rfl ?_); refine goesL_ (some 91) rfl rfl Try.func38 (by kernel_rfl) rfl #[.int .i64 a0, .int .i64 (wrap64 (10000 - a1))] rfl (by (try simp only [List.map_toArray, List.map_cons, List.map_nil]); first | done | rfl | (simp only [List.length_drop, List.length_take]; rfl)) ?_; (with_reducible refine (frac_Part.calls kj21 a0 (wrap64 (10000 - a1)) t194 t195 _ A25.out).mono ?_); rintro e w29 ⟨rfl, hb⟩; refine ⟨_, rfl, ?_⟩; have n0_ := Aside0.mk (below_step (by repeat (first | (with_reducible first | exact HB.out | apply below_alloc | apply pw_below_drewN | apply below_drew1) | exact HB.out)) hb); clear HB; have HB := n0_; clear n0_; (try clear hb); (try clear hb2); (try clear hk); (try clear hi)) | ((with_reducible refine gate_callee (f := 40) rfl ?_); refine goesL_ (some 96) rfl rfl Try.func40 (by kernel_rfl) rfl #[.int .i64 a0] rfl (by (try simp only [List.map_toArray, List.map_cons, List.map_nil]); first | done | rfl | (simp only [List.length_drop, List.length_take]; rfl)) ?_; (with_reducible refine (frac_Of.calls kj21 a0 t196 t197 _ A26.out).mono ?_); rintro e w30 ⟨rfl, hb⟩; refine ⟨_, rfl, ?_⟩; have n0_ := Aside0.mk (below_step (by repeat (first | (with_reducible first | exact HB.out | apply below_alloc | apply pw_below_drewN | apply below_drew1) | exact HB.out)) hb); clear HB; have HB := n0_; clear n0_; (try clear hb); (try clear hb2); (try clear hk); (try clear hi)) | ((with_reducible refine gate_dst (N := 102) rfl ?_); refine Kd.R_lit (Kd.int .i64) _ 34 ?hg (N := 102) ?hd (xs := ([t190, t194] : List Int)) (inner := [.int .i64 t190, .int .i64 t194]) (ok := fun _ => True) (okp := fun _ => True) ?hr ?hp (fun _ hk => hk) trivial (Below.refl _ _) (Nat.le_refl _) (by simp) ?_; (case hd => rfl); (case hg => rfl); (case hr => first | (go_simp; done) | (go_simp; rfl)); (case hp => exact (Reps.one (show Kd.M (Kd.int .i64) _ _ _ t190 [.int .i64 t190] from rfl) (Reps.one (show Kd.M (Kd.int .i64) _ _ _ t194 [.int .i64 t194] from rfl) (Reps.none _ _)))); intro v199 w31 ho32 hb hg_ hnew_; clear hg_ hnew_; (first | rw [← Ny198.out] at ho32 | (simp only [Int.reduceToNat] at ho32; rw [← Ny198.out] at ho32)); have n0_ := Aside0.mk (Kd.R_lower ho32 (below_size (by repeat (first | (with_reducible first | exact HB.out | apply below_alloc | apply pw_below_drewN | apply below_drew1) | exact HB.out)))); have n1_ := Aside0.mk (below_step (by repeat (first | (with_reducible first | exact HB.out | apply below_alloc | apply pw_below_drewN | apply below_drew1) | exact HB.out)) hb); clear HB; have HO200 := n0_; have HB := n1_; clear n0_ n1_; clear hb ho32; obtain ⟨Ao33, co33, eo33⟩ := Kd.R_slice HO200.out; subst eo33) | ((with_reducible refine gate_callee (f := 36) rfl ?_); refine goesL_ (some 103) rfl rfl Try.func36 (by kernel_rfl) rfl #[.slice Ao33 y198.length co33] rfl (by (try simp only [List.map_toArray, List.map_cons, List.map_nil]); first | done | rfl | (simp only [List.length_drop, List.length_take]; rfl)) ?_; (with_reducible refine (frac_Add.calls kj21 _ _ y198 t201 t202 _ ?side1 ?side2 A27.out).mono ?_); (case side1 => repeat (first | exact (Kd.R_reads' HO200.out).2.2 | (with_reducible refine Kd.C_alloc ?_ _) | (with_reducible refine Kd.C_drewN ?_ _) | (with_reducible refine Kd.C_drew ?_))); (case side2 => exact (Kd.R_reads' HO200.out).2.1); rintro e w' ⟨rfl, ⟨nd, rfl⟩⟩; refine ⟨_, rfl, ?_⟩))
                    (try simp only [Act.put, List.setIfInBounds_toArray, List.set_cons_zero, List.set_cons_succ])
                    go_cut [121] (fun v121 wc => ∃ (kq : Nat) (x121_27 : Bool), v121 = .bool x121_27 ∧ Aside0 (stipendlaw02_FracParts.j2 kq a2 t190 t192 t193 x121_27 = some r) ∧ Aside0 (kq ≤ kj21) ∧ Aside0 (Below w.heap.size w wc))
                    case first =>
                      have H := HC28.out
                      clear HC28
                      by_cases c34 : (wrap64 ((wrap64 (t195 + t197)) + t202)) = 0
                      · rw [if_pos c34] at H
                        have c34b0 : ((wrap64 ((wrap64 (t195 + t197)) + t202)) == 0) = true := beq_iff_eq.mpr c34
                        have c34b1 : ((wrap64 ((wrap64 (t195 + t197)) + t202)) != 0) = false := bne_eq_false_iff_eq.mpr c34
                        clear c34
                        (first | rw [c34b0] | (simp only [i64_w, i32_w]; rw [c34b0]) | skip)
                        by_cases c35 : t201 = t196
                        · rw [if_pos c35] at H
                          have c35b0 : (t201 == t196) = true := beq_iff_eq.mpr c35
                          have c35b1 : (t201 != t196) = false := bne_eq_false_iff_eq.mpr c35
                          clear c35
                          replace H := Option.bind_eq_some_iff.mp H
                          obtain ⟨t203, A360, H⟩ := H
                          replace H : (stipendlaw02_FracParts.j2 kj21 a2 t190 t192 t193 (!t203)) = some r := H
                          have A36 := Aside0.mk A360
                          clear A360
                          have H' := Aside0.mk H
                          clear H
                          go_wp2_with (first | (go_at_call 41; (with_reducible refine (frac_Right.calls t190 t203 _ A36.out).mono ?_); rintro e w' ⟨rfl, ⟨nd, rfl⟩⟩))
                          go_meet
                          case rel => exact ⟨_, (!t203), (by first | rfl | (simp; done) | (simp [*]; done)), H', ⟨by have := HJ7.out; have := HJ21.out; first | omega | exact Nat.le_refl _⟩, ⟨by repeat (first | (with_reducible first | exact HB.out | apply below_alloc | apply pw_below_drewN | apply below_drew1) | exact HB.out)⟩⟩
                        · rw [if_neg c35] at H
                          have c35b0 : (t201 == t196) = false := beq_eq_false_iff_ne.mpr c35
                          have c35b1 : (t201 != t196) = true := bne_iff_ne.mpr c35
                          have H' := Aside0.mk H
                          clear H
                          go_wp2
                          go_meet
                          case rel => exact ⟨_, (true), (by first | rfl | (simp; done) | (simp [*]; done)), H', ⟨by have := HJ7.out; have := HJ21.out; first | omega | exact Nat.le_refl _⟩, ⟨by repeat (first | (with_reducible first | exact HB.out | apply below_alloc | apply pw_below_drewN | apply below_drew1) | exact HB.out)⟩⟩
                      · rw [if_neg c34] at H
                        have c34b0 : ((wrap64 ((wrap64 (t195 + t197)) + t202)) == 0) = false := beq_eq_false_iff_ne.mpr c34
                        have c34b1 : ((wrap64 ((wrap64 (t195 + t197)) + t202)) != 0) = true := bne_iff_ne.mpr c34
                        (first | rw [c34b0] | (simp only [i64_w, i32_w]; rw [c34b0]) | skip)
                        have H' := Aside0.mk H
                        clear H
                        go_wp2
                        go_meet
                        case rel => exact ⟨_, (true), (by first | rfl | (simp; done) | (simp [*]; done)), H', ⟨by have := HJ7.out; have := HJ21.out; first | omega | exact Nat.le_refl _⟩, ⟨by repeat (first | (with_reducible first | exact HB.out | apply below_alloc | apply pw_below_drewN | apply below_drew1) | exact HB.out)⟩⟩
                    case rest =>
                      clear HC28
                      try clear c1
                      try clear c2
                      try clear p2
                      try clear c3
                      try clear c4
                      try clear c5
                      try clear p6
                      try clear c12
                      try clear c12b0
                      try clear c13
                      try clear c14
                      try clear c14b0
                      try clear c15
                      try clear c15b0
                      try clear c15b1
                      try clear c16
                      try clear c16b0
                      try clear c16b1
                      try clear c17
                      try clear c17b0
                      try clear c17b1
                      try clear c18
                      try clear c18b0
                      try clear c19
                      try clear c19b0
                      try clear c19b1
                      try clear c20
                      try clear c20b0
                      try clear c20b1
                      try clear c21
                      try clear c21b0
                      try clear c21b1
                      try clear c23
                      try clear c23b0
                      try clear c23b1
                      try clear c24
                      try clear c30
                      try clear c34
                      try clear c34b0
                      try clear c34b1
                      try clear c35
                      try clear c35b0
                      try clear c35b1
                      try clear c36
                      try clear p2
                      try clear p6
                      obtain ⟨kq, x121_27, rfl, HA, HJ27, HB⟩ := hcut
                      cases kq with
                      | zero => exact absurd HA.out (by simp [stipendlaw02_FracParts.j2])
                      | succ kj27 =>
                        have H := HA.out
                        clear HA
                        simp only [stipendlaw02_FracParts.j2] at H
                        by_cases c37 : x121_27 = true
                        · subst c37
                          have H1 : (some false) = some r := by rw [if_pos rfl] at H; exact H
                          clear H
                          have H := H1
                          clear H1
                          obtain rfl := Option.some.inj H
                          go_wp2
                          go_ret
                          exact ⟨by first | rfl | (simp [errW_none, errW_some] <;> rfl) | (simp [*, errW_none, errW_some] <;> rfl), by repeat (first | (with_reducible first | exact HB.out | apply below_alloc | apply pw_below_drewN | apply below_drew1) | exact HB.out)⟩
                        · replace c37 := Bool.eq_false_iff.mpr c37
                          subst c37
                          have H1 : (if a2 < 1 then (if t193 = 1 then (some (t192 == 0)) else (some false)) else (if a2 > 6 then (if t193 = 1 then (some (t192 == 0)) else (some false)) else (if t193 = 0 then (if (wrap64 (t190 - (wrap64 (10000 * t192)))) > (-10000) then (some (decide ((wrap64 (t190 - (wrap64 (10000 * t192)))) < 10000))) else (some false)) else (some false)))) = some r := by rw [if_neg (show ¬ (false = true) by decide)] at H; exact H
                          clear H
                          have H := H1
                          clear H1
                          by_cases c38 : a2 < 1
                          · rw [if_pos c38] at H
                            have c38b0 : decide (a2 < 1) = true := decide_eq_true c38
                            clear c38
                            by_cases c39 : t193 = 1
                            · rw [if_pos c39] at H
                              have c39b0 : (t193 == 1) = true := beq_iff_eq.mpr c39
                              have c39b1 : (t193 != 1) = false := bne_eq_false_iff_eq.mpr c39
                              clear c39
                              obtain rfl := Option.some.inj H
                              go_wp2
                              go_ret
                              exact ⟨by first | rfl | (simp [errW_none, errW_some] <;> rfl) | (simp [*, errW_none, errW_some] <;> rfl), by repeat (first | (with_reducible first | exact HB.out | apply below_alloc | apply pw_below_drewN | apply below_drew1) | exact HB.out)⟩
                            · rw [if_neg c39] at H
                              have c39b0 : (t193 == 1) = false := beq_eq_false_iff_ne.mpr c39
                              have c39b1 : (t193 != 1) = true := bne_iff_ne.mpr c39
                              obtain rfl := Option.some.inj H
                              go_wp2
                              go_ret
                              exact ⟨by first | rfl | (simp [errW_none, errW_some] <;> rfl) | (simp [*, errW_none, errW_some] <;> rfl), by repeat (first | (with_reducible first | exact HB.out | apply below_alloc | apply pw_below_drewN | apply below_drew1) | exact HB.out)⟩
                          · rw [if_neg c38] at H
                            have c38b0 : decide (a2 < 1) = false := decide_eq_false c38
                            clear c38
                            by_cases c40 : a2 > 6
                            · rw [if_pos c40] at H
                              have c40b0 : decide (6 < a2) = true := decide_eq_true c40
                              clear c40
                              by_cases c41 : t193 = 1
                              · rw [if_pos c41] at H
                                have c41b0 : (t193 == 1) = true := beq_iff_eq.mpr c41
                                have c41b1 : (t193 != 1) = false := bne_eq_false_iff_eq.mpr c41
                                clear c41
                                obtain rfl := Option.some.inj H
                                go_wp2
                                go_ret
                                exact ⟨by first | rfl | (simp [errW_none, errW_some] <;> rfl) | (simp [*, errW_none, errW_some] <;> rfl), by repeat (first | (with_reducible first | exact HB.out | apply below_alloc | apply pw_below_drewN | apply below_drew1) | exact HB.out)⟩
                              · rw [if_neg c41] at H
                                have c41b0 : (t193 == 1) = false := beq_eq_false_iff_ne.mpr c41
                                have c41b1 : (t193 != 1) = true := bne_iff_ne.mpr c41
                                obtain rfl := Option.some.inj H
                                go_wp2
                                go_ret
                                exact ⟨by first | rfl | (simp [errW_none, errW_some] <;> rfl) | (simp [*, errW_none, errW_some] <;> rfl), by repeat (first | (with_reducible first | exact HB.out | apply below_alloc | apply pw_below_drewN | apply below_drew1) | exact HB.out)⟩
                            · rw [if_neg c40] at H
                              have c40b0 : decide (6 < a2) = false := decide_eq_false c40
                              clear c40
                              by_cases c42 : t193 = 0
                              · rw [if_pos c42] at H
                                have c42b0 : (t193 == 0) = true := beq_iff_eq.mpr c42
                                have c42b1 : (t193 != 0) = false := bne_eq_false_iff_eq.mpr c42
                                clear c42
                                by_cases c43 : (wrap64 (t190 - (wrap64 (10000 * t192)))) > (-10000)
                                · rw [if_pos c43] at H
                                  have c43b0 : decide ((-10000) < (wrap64 (t190 - (wrap64 (10000 * t192))))) = true := decide_eq_true c43
                                  clear c43
                                  obtain rfl := Option.some.inj H
                                  go_wp2
                                  go_ret
                                  exact ⟨by first | rfl | (simp [errW_none, errW_some] <;> rfl) | (simp [*, errW_none, errW_some] <;> rfl), by repeat (first | (with_reducible first | exact HB.out | apply below_alloc | apply pw_below_drewN | apply below_drew1) | exact HB.out)⟩
                                · rw [if_neg c43] at H
                                  have c43b0 : decide ((-10000) < (wrap64 (t190 - (wrap64 (10000 * t192))))) = false := decide_eq_false c43
                                  clear c43
                                  obtain rfl := Option.some.inj H
                                  go_wp2
                                  go_ret
                                  exact ⟨by first | rfl | (simp [errW_none, errW_some] <;> rfl) | (simp [*, errW_none, errW_some] <;> rfl), by repeat (first | (with_reducible first | exact HB.out | apply below_alloc | apply pw_below_drewN | apply below_drew1) | exact HB.out)⟩
                              · rw [if_neg c42] at H
                                have c42b0 : (t193 == 0) = false := beq_eq_false_iff_ne.mpr c42
                                have c42b1 : (t193 != 0) = true := bne_iff_ne.mpr c42
                                obtain rfl := Option.some.inj H
                                go_wp2
                                go_ret
                                exact ⟨by first | rfl | (simp [errW_none, errW_some] <;> rfl) | (simp [*, errW_none, errW_some] <;> rfl), by repeat (first | (with_reducible first | exact HB.out | apply below_alloc | apply pw_below_drewN | apply below_drew1) | exact HB.out)⟩
        · replace c13 := Bool.eq_false_iff.mpr c13
          subst c13
          have H1 : (if t191 = 10 then (if t193 = 10 then (if t190 = 0 then (some (t192 == 0)) else (some false)) else (some false)) else (some false)) = some r := by rw [if_neg (show ¬ (false = true) by decide)] at H; exact H
          clear H
          have H := H1
          clear H1
          by_cases c44 : t191 = 10
          · rw [if_pos c44] at H
            have c44b0 : (t191 == 10) = true := beq_iff_eq.mpr c44
            have c44b1 : (t191 != 10) = false := bne_eq_false_iff_eq.mpr c44
            clear c44
            by_cases c45 : t193 = 10
            · rw [if_pos c45] at H
              have c45b0 : (t193 == 10) = true := beq_iff_eq.mpr c45
              have c45b1 : (t193 != 10) = false := bne_eq_false_iff_eq.mpr c45
              clear c45
              by_cases c46 : t190 = 0
              · rw [if_pos c46] at H
                have c46b0 : (t190 == 0) = true := beq_iff_eq.mpr c46
                have c46b1 : (t190 != 0) = false := bne_eq_false_iff_eq.mpr c46
                clear c46
                obtain rfl := Option.some.inj H
                go_wp2
                go_ret
                exact ⟨by first | rfl | (simp [errW_none, errW_some] <;> rfl) | (simp [*, errW_none, errW_some] <;> rfl), by repeat (first | (with_reducible first | exact HB.out | apply below_alloc | apply pw_below_drewN | apply below_drew1) | exact HB.out)⟩
              · rw [if_neg c46] at H
                have c46b0 : (t190 == 0) = false := beq_eq_false_iff_ne.mpr c46
                have c46b1 : (t190 != 0) = true := bne_iff_ne.mpr c46
                obtain rfl := Option.some.inj H
                go_wp2
                go_ret
                exact ⟨by first | rfl | (simp [errW_none, errW_some] <;> rfl) | (simp [*, errW_none, errW_some] <;> rfl), by repeat (first | (with_reducible first | exact HB.out | apply below_alloc | apply pw_below_drewN | apply below_drew1) | exact HB.out)⟩
            · rw [if_neg c45] at H
              have c45b0 : (t193 == 10) = false := beq_eq_false_iff_ne.mpr c45
              have c45b1 : (t193 != 10) = true := bne_iff_ne.mpr c45
              obtain rfl := Option.some.inj H
              go_wp2
              go_ret
              exact ⟨by first | rfl | (simp [errW_none, errW_some] <;> rfl) | (simp [*, errW_none, errW_some] <;> rfl), by repeat (first | (with_reducible first | exact HB.out | apply below_alloc | apply pw_below_drewN | apply below_drew1) | exact HB.out)⟩
          · rw [if_neg c44] at H
            have c44b0 : (t191 == 10) = false := beq_eq_false_iff_ne.mpr c44
            have c44b1 : (t191 != 10) = true := bne_iff_ne.mpr c44
            obtain rfl := Option.some.inj H
            go_wp2
            go_ret
            exact ⟨by first | rfl | (simp [errW_none, errW_some] <;> rfl) | (simp [*, errW_none, errW_some] <;> rfl), by repeat (first | (with_reducible first | exact HB.out | apply below_alloc | apply pw_below_drewN | apply below_drew1) | exact HB.out)⟩
  · replace c5 := Bool.eq_false_iff.mpr c5
    subst c5
    have H1 : (some false) = some r := by rw [if_neg (show ¬ (false = true) by decide)] at H; exact H
    clear H
    have H := H1
    clear H1
    obtain rfl := Option.some.inj H
    go_enter Try.func14, Try.ntmps14
    go_wp2_with (first | ((with_reducible refine gate_callee (f := 30) rfl ?_); refine goesL_ (some 19) rfl rfl Try.func30 (by kernel_rfl) rfl #[] rfl (by (try simp only [List.map_toArray, List.map_cons, List.map_nil]); first | done | rfl | (simp only [List.length_drop, List.length_take]; rfl)) ?_; (with_reducible refine (stipendlaw02_parts.calls k  false _ A4.out).mono ?_); rintro e w47 ⟨rfl, hb⟩; refine ⟨_, rfl, ?_⟩; have n0_ := Aside0.mk (below_step (by repeat (first | (with_reducible first | exact HB.out | apply below_alloc | apply pw_below_drewN | apply below_drew1) | exact HB.out)) hb); clear HB; have HB := n0_; clear n0_; (try clear hb); (try clear hb2); (try clear hk); (try clear hi)))
    go_ret
    exact ⟨by first | rfl | (simp [errW_none, errW_some] <;> rfl) | (simp [*, errW_none, errW_some] <;> rfl), by repeat (first | (with_reducible first | exact HB.out | apply below_alloc | apply pw_below_drewN | apply below_drew1) | exact HB.out)⟩

/-- THE ONE PURE STATEMENT of stipendlaw02_FracParts: yours. -/
def stipendlaw02_FracParts.Pure : Prop := ∀ (a0 : Int) (a1 : Int) (a2 : Int), (Lit.int .i64 a0).wf = true → (Lit.int .i64 a1).wf = true → (Lit.int .i64 a2).wf = true → ∃ k, stipendlaw02_FracParts.f k a0 a1 a2 = some true
theorem stipendlaw02_FracParts.walk (P : stipendlaw02_FracParts.Pure) (a0 : Int) (a1 : Int) (a2 : Int) (w : World) (w0 : (Lit.int .i64 a0).wf = true) (w1 : (Lit.int .i64 a1).wf = true) (w2 : (Lit.int .i64 a2).wf = true) :
    Calls Try.prog 14 #[.int .i64 a0, .int .i64 a1, .int .i64 a2] w fun e w' => e = .returned (.bool true) ∧ Below w.heap.size w w' := by
  obtain ⟨k, h⟩ := P a0 a1 a2 w0 w1 w2
  refine (stipendlaw02_FracParts.calls k a0 a1 a2 true w h).mono ?_
  rintro e w' ⟨rfl, hd⟩
  exact ⟨rfl, hd⟩

/-! ### hold_State_Due: function 27 -/
def hold_State_Due.f (a0_0 : Int) (a0_1 : Int) : Option (Int) := some (wrap64 (a0_0 + a0_1))
set_option maxHeartbeats 8000000 in
set_option maxRecDepth 100000 in
theorem hold_State_Due.calls (a0_0 : Int) (a0_1 : Int) (r : Int) (w : World) (h : hold_State_Due.f a0_0 a0_1 = some r) :
    Calls Try.prog 27 #[.agg #[.int .i64 a0_0, .int .i64 a0_1]] w fun e w' => e = .returned (.int .i64 r) ∧ Below w.heap.size w w' := by
  have hu47 := Try.underlying47
  have HB := Aside0.mk (Below.refl w.heap.size w)
  have H : (some (wrap64 (a0_0 + a0_1))) = some r := h
  clear h
  obtain rfl := Option.some.inj H
  go_enter Try.func27, Try.ntmps27
  go_wp2_with (first | ((with_reducible refine gate_dst (N := 1) rfl ?_); refine box_event ?hg (N := 1) ?hd (cs := #[.int .i64 a0_0, .int .i64 a0_1]) (t := 47) ?hr ?_; (case hd => rfl); (case hg => rfl); (case hr => first | (go_simp; done) | (go_simp; rfl)); intro gb204 hg w2 hbox hb; have n0_ := Aside0.mk (below_step (by repeat (first | (with_reducible first | exact HB.out | apply below_alloc | apply pw_below_drewN | apply below_drew1) | exact HB.out)) hb); have n1_ := Aside0.mk (hbox); have n2_ := Aside0.mk ((by rw [hg]; exact (below_size (by repeat (first | (with_reducible first | exact HB.out | apply below_alloc | apply pw_below_drewN | apply below_drew1) | exact HB.out))) : w.heap.size ≤ gb204)); have n3_ := Aside0.mk ((by rw [hg]; exact (below_size (by repeat (first | (with_reducible first | exact HB.out | apply below_alloc | apply pw_below_drewN | apply below_drew1) | exact HB.out))) : w.heap.size ≤ gb204)); clear HB; have HB := n0_; have BK204 := n1_; have GW204 := n2_; have GE204 := n3_; clear n0_ n1_ n2_ n3_; clear hb hbox hg; have hcz3_0 : w2.cell? ⟨gb204, 0, none⟩ = some (.int .i64 a0_0) := (blk_cell BK204.out 0).trans rfl; have hcz3_1 : w2.cell? ⟨gb204, 1, none⟩ = some (.int .i64 a0_1) := (blk_cell BK204.out 1).trans rfl; have hfz3_0 := blk_frozen BK204.out 0; have hfz3_1 := blk_frozen BK204.out 1))
  go_ret
  exact ⟨by first | rfl | (simp [errW_none, errW_some] <;> rfl) | (simp [*, errW_none, errW_some] <;> rfl), by repeat (first | (with_reducible first | exact HB.out | apply below_alloc | apply pw_below_drewN | apply below_drew1 | refine below_set ?_ GE204.out) | exact HB.out)⟩

end Go.Proofs.Ytfiomckebicphaa.X
