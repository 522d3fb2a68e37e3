-- laid by the session's own program (xprint.py) out of Lean's print of the program; Lean checks it
import Derived.Test.YtfiomckebicphaaX0
import Derived.Test.YtfiomckebicphaaXholdLimit
import Derived.Test.YtfiomckebicphaaXstipendlaw14holds
namespace Go.Proofs.Ytfiomckebicphaa.X
open Go.RowKit Go.Proofs.YtfiomckebicphaaW.PrintWords Go.Proofs.YtfiomckebicphaaW.PrintLast Go.Proofs.YtfiomckebicphaaW.PrintMore
attribute [local go_sem] max2_int min2_int max_two min_two max_three min_three max_four min_four   -- for this text's walks alone
set_option linter.unusedVariables false
set_option linter.unusedSimpArgs false

/-! ### stipendlaw14_HoldLimit: function 6 -/
def stipendlaw14_HoldLimit.j0 : Nat → Int → Int → Int → Int → Bool → Option (Bool)
  | 0, _, _, _, _, _ => none
  | k + 1, x0, x1, x5, x6, x29 => if x29 = true then (if x6 = 50 then (some (x5 == 0)) else (some false)) else (if x1 ≤ 0 then (if x6 = 0 then (some (x5 == 0)) else (some false)) else (if x6 = 0 then (if (wrap64 (x5 * 10000)) ≤ (wrap64 (x1 * x0)) then (some (decide ((wrap64 ((wrap64 (x5 + 1)) * 10000)) > (wrap64 (x1 * x0))))) else (some false)) else (some false)))
def stipendlaw14_HoldLimit.f (k : Nat) (a0 : Int) (a1 : Int) : Option (Bool) := (stipendlaw14_holds.f k).bind fun t359 => (if t359 = true then ((hold_Limit.f k ([] : List (List (S30))) ([] : List (S130)) ([] : List (S132)) a0 0 a1).bind fun bt360 => (if a1 > 100000000000 then (if bt360.2 = 10 then (some (bt360.1 == 0)) else (some false)) else (if a0 < 0 then (stipendlaw14_HoldLimit.j0 k a0 a1 bt360.1 bt360.2 true) else (stipendlaw14_HoldLimit.j0 k a0 a1 bt360.1 bt360.2 (decide (a0 > 10000)))))) else (some false))
theorem stipendlaw14_HoldLimit.mono_l : ∀ k, (∀ y0 y1 y2 y3 y4, LeO (stipendlaw14_HoldLimit.j0 k y0 y1 y2 y3 y4) (stipendlaw14_HoldLimit.j0 (k + 1) y0 y1 y2 y3 y4))
  | 0 => fun _ _ _ _ _ r h => by simp [stipendlaw14_HoldLimit.j0] at h
  | k + 1 => by
    have ih0 := stipendlaw14_HoldLimit.mono_l k
    · intro y0 y1 y2 y3 y4
      unfold stipendlaw14_HoldLimit.j0
      repeat' first
      | (with_reducible exact ih0 _ _ _ _ _)
      | (with_reducible exact hold_Limit.mono _ _ _ _ _ _ _)
      | (with_reducible exact stipendlaw14_holds.mono _)
      | (with_reducible exact LeO.refl _)
      | (with_reducible exact LeO.none _)
      | (with_reducible refine LeO.ite ?_ ?_)
      | (with_reducible refine LeO.bind ?_ (fun _ => ?_))
      | exact ih0 _ _ _ _ _
      | exact hold_Limit.mono _ _ _ _ _ _ _
      | exact stipendlaw14_holds.mono _
      | exact LeO.none _
      | refine LeO.ite ?_ ?_
      | refine LeO.bind ?_ (fun _ => ?_)
theorem stipendlaw14_HoldLimit.mono : ∀ a0 a1 k, LeO (stipendlaw14_HoldLimit.f k a0 a1) (stipendlaw14_HoldLimit.f (k + 1) a0 a1) := by
  intro a0 a1 k
  have ih0 := stipendlaw14_HoldLimit.mono_l k
  unfold stipendlaw14_HoldLimit.f
  repeat' first
      | (with_reducible exact ih0 _ _ _ _ _)
      | (with_reducible exact hold_Limit.mono _ _ _ _ _ _ _)
      | (with_reducible exact stipendlaw14_holds.mono _)
      | (with_reducible exact LeO.refl _)
      | (with_reducible exact LeO.none _)
      | (with_reducible refine LeO.ite ?_ ?_)
      | (with_reducible refine LeO.bind ?_ (fun _ => ?_))
      | exact ih0 _ _ _ _ _
      | exact hold_Limit.mono _ _ _ _ _ _ _
      | exact stipendlaw14_holds.mono _
      | exact LeO.none _
      | refine LeO.ite ?_ ?_
      | refine LeO.bind ?_ (fun _ => ?_)
set_option maxHeartbeats 8000000 in
set_option maxRecDepth 100000 in
theorem stipendlaw14_HoldLimit.calls (k : Nat) (a0 : Int) (a1 : Int) (r : Bool) (w : World) (h : stipendlaw14_HoldLimit.f k a0 a1 = some r) :
    Calls Try.prog 6 #[.int .i64 a0, .int .i64 a1] w fun e w' => e = .returned (.bool r) ∧ Below w.heap.size w w' := by
  have hu55 := Try.underlying55
  have HB := Aside0.mk (Below.refl w.heap.size w)
  have H : ((stipendlaw14_holds.f k).bind fun t359 => (if t359 = true then ((hold_Limit.f k ([] : List (List (S30))) ([] : List (S130)) ([] : List (S132)) a0 0 a1).bind fun bt360 => (if a1 > 100000000000 then (if bt360.2 = 10 then (some (bt360.1 == 0)) else (some false)) else (if a0 < 0 then (stipendlaw14_HoldLimit.j0 k a0 a1 bt360.1 bt360.2 true) else (stipendlaw14_HoldLimit.j0 k a0 a1 bt360.1 bt360.2 (decide (a0 > 10000)))))) else (some false))) = some r := h
  clear h
  replace H := Option.bind_eq_some_iff.mp H
  obtain ⟨t359, A30, H⟩ := H
  replace H : (if t359 = true then ((hold_Limit.f k ([] : List (List (S30))) ([] : List (S130)) ([] : List (S132)) a0 0 a1).bind fun bt360 => (if a1 > 100000000000 then (if bt360.2 = 10 then (some (bt360.1 == 0)) else (some false)) else (if a0 < 0 then (stipendlaw14_HoldLimit.j0 k a0 a1 bt360.1 bt360.2 true) else (stipendlaw14_HoldLimit.j0 k a0 a1 bt360.1 bt360.2 (decide (a0 > 10000)))))) else (some false)) = some r := H
  have A3 := Aside0.mk A30
  clear A30
  by_cases c4 : t359 = true
  · subst c4
    have H1 : ((hold_Limit.f k ([] : List (List (S30))) ([] : List (S130)) ([] : List (S132)) a0 0 a1).bind fun bt360 => (if a1 > 100000000000 then (if bt360.2 = 10 then (some (bt360.1 == 0)) else (some false)) else (if a0 < 0 then (stipendlaw14_HoldLimit.j0 k a0 a1 bt360.1 bt360.2 true) else (stipendlaw14_HoldLimit.j0 k a0 a1 bt360.1 bt360.2 (decide (a0 > 10000)))))) = some r := by rw [if_pos rfl] at H; exact H
    clear H
    have H := H1
    clear H1
    replace H := Option.bind_eq_some_iff.mp H
    obtain ⟨⟨t360, t361⟩, A50, H⟩ := H
    replace H : (if a1 > 100000000000 then (if t361 = 10 then (some (t360 == 0)) else (some false)) else (if a0 < 0 then (stipendlaw14_HoldLimit.j0 k a0 a1 t360 t361 true) else (stipendlaw14_HoldLimit.j0 k a0 a1 t360 t361 (decide (a0 > 10000))))) = some r := H
    have A5 := Aside0.mk A50
    clear A50
    by_cases c6 : a1 > 100000000000
    · rw [if_pos c6] at H
      have c6b0 : decide (100000000000 < a1) = true := decide_eq_true c6
      clear c6
      by_cases c7 : t361 = 10
      · rw [if_pos c7] at H
        have c7b0 : (t361 == 10) = true := beq_iff_eq.mpr c7
        have c7b1 : (t361 != 10) = false := bne_eq_false_iff_eq.mpr c7
        clear c7
        obtain rfl := Option.some.inj H
        go_enter Try.func6, Try.ntmps6
        go_wp2_with (first | ((with_reducible refine gate_callee (f := 24) rfl ?_); refine goesL_ (some 7) rfl rfl Try.func24 (by kernel_rfl) rfl #[] rfl (by (try simp only [List.map_toArray, List.map_cons, List.map_nil]); first | done | rfl | (simp only [List.length_drop, List.length_take]; rfl)) ?_; (with_reducible refine (stipendlaw14_holds.calls k  true _ A3.out).mono ?_); rintro e w8 ⟨rfl, hb⟩; refine ⟨_, rfl, ?_⟩; have n0_ := Aside0.mk (below_step (by repeat (first | (with_reducible first | exact HB.out | apply below_alloc | apply pw_below_drewN | apply below_drew1) | exact HB.out)) hb); clear HB; have HB := n0_; clear n0_; (try clear hb); (try clear hb2); (try clear hk); (try clear hi)) | ((with_reducible refine gate_callee (f := 29) rfl ?_); refine goesL_ (some 13) rfl rfl Try.func29 (by kernel_rfl) rfl #[.agg #[.slice none 0 0, .slice none 0 0, .slice none 0 0, .int .i64 a0, .int .i64 0], .int .i64 a1] rfl (by (try simp only [List.map_toArray, List.map_cons, List.map_nil]); first | done | rfl | (simp only [List.length_drop, List.length_take]; rfl)) ?_; (refine (hold_Limit.calls k _ _ ([] : List (List (S30))) _ _ ([] : List (S130)) _ _ ([] : List (S132)) a0 0 a1 t360 t361 _ ?side1 ?side2 ?side3 ?side4 ?side5 ?side6 A5.out).mono ?_); (case side1 => exact Kd.C_nil _ _); (case side2 => exact Nat.le_refl _); (case side3 => exact Kd.C_nil _ _); (case side4 => exact Nat.le_refl _); (case side5 => exact Kd.C_nil _ _); (case side6 => exact Nat.le_refl _); rintro e w9 ⟨rfl, hb⟩; refine ⟨_, rfl, ?_⟩; have n0_ := Aside0.mk (below_step (by repeat (first | (with_reducible first | exact HB.out | apply below_alloc | apply pw_below_drewN | apply below_drew1) | exact HB.out)) hb); clear HB; have HB := n0_; clear n0_; (try clear hb); (try clear hb2); (try clear hk); (try clear hi)))
        go_ret
        exact ⟨by first | rfl | (simp [errW_none, errW_some] <;> rfl) | (simp [*, errW_none, errW_some] <;> rfl), by repeat (first | (with_reducible first | exact HB.out | apply below_alloc | apply pw_below_drewN | apply below_drew1) | exact HB.out)⟩
      · rw [if_neg c7] at H
        have c7b0 : (t361 == 10) = false := beq_eq_false_iff_ne.mpr c7
        have c7b1 : (t361 != 10) = true := bne_iff_ne.mpr c7
        obtain rfl := Option.some.inj H
        go_enter Try.func6, Try.ntmps6
        go_wp2_with (first | ((with_reducible refine gate_callee (f := 24) rfl ?_); refine goesL_ (some 7) rfl rfl Try.func24 (by kernel_rfl) rfl #[] rfl (by (try simp only [List.map_toArray, List.map_cons, List.map_nil]); first | done | rfl | (simp only [List.length_drop, List.length_take]; rfl)) ?_; (with_reducible refine (stipendlaw14_holds.calls k  true _ A3.out).mono ?_); rintro e w10 ⟨rfl, hb⟩; refine ⟨_, rfl, ?_⟩; have n0_ := Aside0.mk (below_step (by repeat (first | (with_reducible first | exact HB.out | apply below_alloc | apply pw_below_drewN | apply below_drew1) | exact HB.out)) hb); clear HB; have HB := n0_; clear n0_; (try clear hb); (try clear hb2); (try clear hk); (try clear hi)) | ((with_reducible refine gate_callee (f := 29) rfl ?_); refine goesL_ (some 13) rfl rfl Try.func29 (by kernel_rfl) rfl #[.agg #[.slice none 0 0, .slice none 0 0, .slice none 0 0, .int .i64 a0, .int .i64 0], .int .i64 a1] rfl (by (try simp only [List.map_toArray, List.map_cons, List.map_nil]); first | done | rfl | (simp only [List.length_drop, List.length_take]; rfl)) ?_; (refine (hold_Limit.calls k _ _ ([] : List (List (S30))) _ _ ([] : List (S130)) _ _ ([] : List (S132)) a0 0 a1 t360 t361 _ ?side1 ?side2 ?side3 ?side4 ?side5 ?side6 A5.out).mono ?_); (case side1 => exact Kd.C_nil _ _); (case side2 => exact Nat.le_refl _); (case side3 => exact Kd.C_nil _ _); (case side4 => exact Nat.le_refl _); (case side5 => exact Kd.C_nil _ _); (case side6 => exact Nat.le_refl _); rintro e w11 ⟨rfl, hb⟩; refine ⟨_, rfl, ?_⟩; have n0_ := Aside0.mk (below_step (by repeat (first | (with_reducible first | exact HB.out | apply below_alloc | apply pw_below_drewN | apply below_drew1) | exact HB.out)) hb); clear HB; have HB := n0_; clear n0_; (try clear hb); (try clear hb2); (try clear hk); (try clear hi)))
        go_ret
        exact ⟨by first | rfl | (simp [errW_none, errW_some] <;> rfl) | (simp [*, errW_none, errW_some] <;> rfl), by repeat (first | (with_reducible first | exact HB.out | apply below_alloc | apply pw_below_drewN | apply below_drew1) | exact HB.out)⟩
    · rw [if_neg c6] at H
      have c6b0 : decide (100000000000 < a1) = false := decide_eq_false c6
      clear c6
      have HC12 := Aside0.mk H
      clear H
      go_enter Try.func6, Try.ntmps6
      go_upto_region 6 with (first | ((with_reducible refine gate_callee (f := 24) rfl ?_); refine goesL_ (some 7) rfl rfl Try.func24 (by kernel_rfl) rfl #[] rfl (by (try simp only [List.map_toArray, List.map_cons, List.map_nil]); first | done | rfl | (simp only [List.length_drop, List.length_take]; rfl)) ?_; (with_reducible refine (stipendlaw14_holds.calls k  true _ A3.out).mono ?_); rintro e w13 ⟨rfl, hb⟩; refine ⟨_, rfl, ?_⟩; have n0_ := Aside0.mk (below_step (by repeat (first | (with_reducible first | exact HB.out | apply below_alloc | apply pw_below_drewN | apply below_drew1) | exact HB.out)) hb); clear HB; have HB := n0_; clear n0_; (try clear hb); (try clear hb2); (try clear hk); (try clear hi)) | ((with_reducible refine gate_callee (f := 29) rfl ?_); refine goesL_ (some 13) rfl rfl Try.func29 (by kernel_rfl) rfl #[.agg #[.slice none 0 0, .slice none 0 0, .slice none 0 0, .int .i64 a0, .int .i64 0], .int .i64 a1] rfl (by (try simp only [List.map_toArray, List.map_cons, List.map_nil]); first | done | rfl | (simp only [List.length_drop, List.length_take]; rfl)) ?_; (refine (hold_Limit.calls k _ _ ([] : List (List (S30))) _ _ ([] : List (S130)) _ _ ([] : List (S132)) a0 0 a1 t360 t361 _ ?side1 ?side2 ?side3 ?side4 ?side5 ?side6 A5.out).mono ?_); (case side1 => exact Kd.C_nil _ _); (case side2 => exact Nat.le_refl _); (case side3 => exact Kd.C_nil _ _); (case side4 => exact Nat.le_refl _); (case side5 => exact Kd.C_nil _ _); (case side6 => exact Nat.le_refl _); rintro e w14 ⟨rfl, hb⟩; refine ⟨_, rfl, ?_⟩; have n0_ := Aside0.mk (below_step (by repeat (first | (with_reducible first | exact HB.out | apply below_alloc | apply pw_below_drewN | apply below_drew1) | exact HB.out)) hb); clear HB; have HB := n0_; clear n0_; (try clear hb); (try clear hb2); (try clear hk); (try clear hi)))
      (try simp only [Act.put, List.setIfInBounds_toArray, List.set_cons_zero, List.set_cons_succ])
      go_cut [29] (fun v29 wc => ∃ (kq : Nat) (x29_11 : Bool), v29 = .bool x29_11 ∧ Aside0 (stipendlaw14_HoldLimit.j0 kq a0 a1 t360 t361 x29_11 = some r) ∧ Aside0 (kq ≤ k) ∧ Aside0 (Below w.heap.size w wc))
      case first =>
        have H := HC12.out
        clear HC12
        by_cases c15 : a0 < 0
        · rw [if_pos c15] at H
          have c15b0 : decide (a0 < 0) = true := decide_eq_true c15
          clear c15
          (first | rw [c15b0] | (simp only [i64_w, i32_w]; rw [c15b0]) | skip)
          have H' := Aside0.mk H
          clear H
          go_wp2
          go_meet
          case rel => exact ⟨_, (true), (by first | rfl | (simp; done) | (simp [*]; done)), H', ⟨by first | omega | exact Nat.le_refl _⟩, ⟨by repeat (first | (with_reducible first | exact HB.out | apply below_alloc | apply pw_below_drewN | apply below_drew1) | exact HB.out)⟩⟩
        · rw [if_neg c15] at H
          have c15b0 : decide (a0 < 0) = false := decide_eq_false c15
          clear c15
          (first | rw [c15b0] | (simp only [i64_w, i32_w]; rw [c15b0]) | skip)
          have H' := Aside0.mk H
          clear H
          go_wp2
          go_meet
          case rel => exact ⟨_, (decide (a0 > 10000)), (by first | rfl | (simp; done) | (simp [*]; done)), H', ⟨by first | omega | exact Nat.le_refl _⟩, ⟨by repeat (first | (with_reducible first | exact HB.out | apply below_alloc | apply pw_below_drewN | apply below_drew1) | exact HB.out)⟩⟩
      case rest =>
        clear HC12
        try clear c1
        try clear c2
        try clear p2
        try clear c4
        try clear c6
        try clear c6b0
        try clear c7
        try clear c7b0
        try clear c7b1
        try clear c15
        try clear c15b0
        obtain ⟨kq, x29_11, rfl, HA, HJ11, HB⟩ := hcut
        cases kq with
        | zero => exact absurd HA.out (by simp [stipendlaw14_HoldLimit.j0])
        | succ kj11 =>
          have H := HA.out
          clear HA
          simp only [stipendlaw14_HoldLimit.j0] at H
          by_cases c16 : x29_11 = true
          · subst c16
            have H1 : (if t361 = 50 then (some (t360 == 0)) else (some false)) = some r := by rw [if_pos rfl] at H; exact H
            clear H
            have H := H1
            clear H1
            by_cases c17 : t361 = 50
            · rw [if_pos c17] at H
              have c17b0 : (t361 == 50) = true := beq_iff_eq.mpr c17
              have c17b1 : (t361 != 50) = false := bne_eq_false_iff_eq.mpr c17
              clear c17
              obtain rfl := Option.some.inj H
              go_wp2
              go_ret
              exact ⟨by first | rfl | (simp [errW_none, errW_some] <;> rfl) | (simp [*, errW_none, errW_some] <;> rfl), by repeat (first | (with_reducible first | exact HB.out | apply below_alloc | apply pw_below_drewN | apply below_drew1) | exact HB.out)⟩
            · rw [if_neg c17] at H
              have c17b0 : (t361 == 50) = false := beq_eq_false_iff_ne.mpr c17
              have c17b1 : (t361 != 50) = true := bne_iff_ne.mpr c17
              obtain rfl := Option.some.inj H
              go_wp2
              go_ret
              exact ⟨by first | rfl | (simp [errW_none, errW_some] <;> rfl) | (simp [*, errW_none, errW_some] <;> rfl), by repeat (first | (with_reducible first | exact HB.out | apply below_alloc | apply pw_below_drewN | apply below_drew1) | exact HB.out)⟩
          · replace c16 := Bool.eq_false_iff.mpr c16
            subst c16
            have H1 : (if a1 ≤ 0 then (if t361 = 0 then (some (t360 == 0)) else (some false)) else (if t361 = 0 then (if (wrap64 (t360 * 10000)) ≤ (wrap64 (a1 * a0)) then (some (decide ((wrap64 ((wrap64 (t360 + 1)) * 10000)) > (wrap64 (a1 * a0))))) else (some false)) else (some false))) = some r := by rw [if_neg (show ¬ (false = true) by decide)] at H; exact H
            clear H
            have H := H1
            clear H1
            by_cases c18 : a1 ≤ 0
            · rw [if_pos c18] at H
              have c18b0 : decide (a1 ≤ 0) = true := decide_eq_true c18
              clear c18
              by_cases c19 : t361 = 0
              · rw [if_pos c19] at H
                have c19b0 : (t361 == 0) = true := beq_iff_eq.mpr c19
                have c19b1 : (t361 != 0) = false := bne_eq_false_iff_eq.mpr c19
                clear c19
                obtain rfl := Option.some.inj H
                go_wp2
                go_ret
                exact ⟨by first | rfl | (simp [errW_none, errW_some] <;> rfl) | (simp [*, errW_none, errW_some] <;> rfl), by repeat (first | (with_reducible first | exact HB.out | apply below_alloc | apply pw_below_drewN | apply below_drew1) | exact HB.out)⟩
              · rw [if_neg c19] at H
                have c19b0 : (t361 == 0) = false := beq_eq_false_iff_ne.mpr c19
                have c19b1 : (t361 != 0) = true := bne_iff_ne.mpr c19
                obtain rfl := Option.some.inj H
                go_wp2
                go_ret
                exact ⟨by first | rfl | (simp [errW_none, errW_some] <;> rfl) | (simp [*, errW_none, errW_some] <;> rfl), by repeat (first | (with_reducible first | exact HB.out | apply below_alloc | apply pw_below_drewN | apply below_drew1) | exact HB.out)⟩
            · rw [if_neg c18] at H
              have c18b0 : decide (a1 ≤ 0) = false := decide_eq_false c18
              clear c18
              by_cases c20 : t361 = 0
              · rw [if_pos c20] at H
                have c20b0 : (t361 == 0) = true := beq_iff_eq.mpr c20
                have c20b1 : (t361 != 0) = false := bne_eq_false_iff_eq.mpr c20
                clear c20
                by_cases c21 : (wrap64 (t360 * 10000)) ≤ (wrap64 (a1 * a0))
                · rw [if_pos c21] at H
                  have c21b0 : decide ((wrap64 (t360 * 10000)) ≤ (wrap64 (a1 * a0))) = true := decide_eq_true c21
                  clear c21
                  obtain rfl := Option.some.inj H
                  go_wp2
                  go_ret
                  exact ⟨by first | rfl | (simp [errW_none, errW_some] <;> rfl) | (simp [*, errW_none, errW_some] <;> rfl), by repeat (first | (with_reducible first | exact HB.out | apply below_alloc | apply pw_below_drewN | apply below_drew1) | exact HB.out)⟩
                · rw [if_neg c21] at H
                  have c21b0 : decide ((wrap64 (t360 * 10000)) ≤ (wrap64 (a1 * a0))) = false := decide_eq_false c21
                  clear c21
                  obtain rfl := Option.some.inj H
                  go_wp2
                  go_ret
                  exact ⟨by first | rfl | (simp [errW_none, errW_some] <;> rfl) | (simp [*, errW_none, errW_some] <;> rfl), by repeat (first | (with_reducible first | exact HB.out | apply below_alloc | apply pw_below_drewN | apply below_drew1) | exact HB.out)⟩
              · rw [if_neg c20] at H
                have c20b0 : (t361 == 0) = false := beq_eq_false_iff_ne.mpr c20
                have c20b1 : (t361 != 0) = true := bne_iff_ne.mpr c20
                obtain rfl := Option.some.inj H
                go_wp2
                go_ret
                exact ⟨by first | rfl | (simp [errW_none, errW_some] <;> rfl) | (simp [*, errW_none, errW_some] <;> rfl), by repeat (first | (with_reducible first | exact HB.out | apply below_alloc | apply pw_below_drewN | apply below_drew1) | exact HB.out)⟩
  · replace c4 := Bool.eq_false_iff.mpr c4
    subst c4
    have H1 : (some false) = some r := by rw [if_neg (show ¬ (false = true) by decide)] at H; exact H
    clear H
    have H := H1
    clear H1
    obtain rfl := Option.some.inj H
    go_enter Try.func6, Try.ntmps6
    go_wp2_with (first | ((with_reducible refine gate_callee (f := 24) rfl ?_); refine goesL_ (some 7) rfl rfl Try.func24 (by kernel_rfl) rfl #[] rfl (by (try simp only [List.map_toArray, List.map_cons, List.map_nil]); first | done | rfl | (simp only [List.length_drop, List.length_take]; rfl)) ?_; (with_reducible refine (stipendlaw14_holds.calls k  false _ A3.out).mono ?_); rintro e w22 ⟨rfl, hb⟩; refine ⟨_, rfl, ?_⟩; have n0_ := Aside0.mk (below_step (by repeat (first | (with_reducible first | exact HB.out | apply below_alloc | apply pw_below_drewN | apply below_drew1) | exact HB.out)) hb); clear HB; have HB := n0_; clear n0_; (try clear hb); (try clear hb2); (try clear hk); (try clear hi)))
    go_ret
    exact ⟨by first | rfl | (simp [errW_none, errW_some] <;> rfl) | (simp [*, errW_none, errW_some] <;> rfl), by repeat (first | (with_reducible first | exact HB.out | apply below_alloc | apply pw_below_drewN | apply below_drew1) | exact HB.out)⟩

/-- THE ONE PURE STATEMENT of stipendlaw14_HoldLimit: yours. -/
def stipendlaw14_HoldLimit.Pure : Prop := ∀ (a0 : Int) (a1 : Int), (Lit.int .i64 a0).wf = true → (Lit.int .i64 a1).wf = true → ∃ k, stipendlaw14_HoldLimit.f k a0 a1 = some true
theorem stipendlaw14_HoldLimit.walk (P : stipendlaw14_HoldLimit.Pure) (a0 : Int) (a1 : Int) (w : World) (w0 : (Lit.int .i64 a0).wf = true) (w1 : (Lit.int .i64 a1).wf = true) :
    Calls Try.prog 6 #[.int .i64 a0, .int .i64 a1] w fun e w' => e = .returned (.bool true) ∧ Below w.heap.size w w' := by
  obtain ⟨k, h⟩ := P a0 a1 w0 w1
  refine (stipendlaw14_HoldLimit.calls k a0 a1 true w h).mono ?_
  rintro e w' ⟨rfl, hd⟩
  exact ⟨rfl, hd⟩

end Go.Proofs.Ytfiomckebicphaa.X
