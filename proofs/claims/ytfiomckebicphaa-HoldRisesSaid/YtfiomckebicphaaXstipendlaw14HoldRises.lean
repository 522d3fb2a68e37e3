-- laid by the session's own program (xprint.py) out of Lean's print of the program; Lean checks it
import Derived.Test.YtfiomckebicphaaX0
import Derived.Test.YtfiomckebicphaaXholdStep
import Derived.Test.YtfiomckebicphaaXstipendlaw14holds
namespace Go.Proofs.Ytfiomckebicphaa.X
open Go.RowKit Go.Proofs.YtfiomckebicphaaW.PrintWords Go.Proofs.YtfiomckebicphaaW.PrintLast Go.Proofs.YtfiomckebicphaaW.PrintMore
attribute [local go_sem] max2_int min2_int max_two min_two max_three min_three max_four min_four   -- for this text's walks alone
set_option linter.unusedVariables false
set_option linter.unusedSimpArgs false

/-! ### stipendlaw14_HoldRises: function 7 -/
mutual
def stipendlaw14_HoldRises.j0 : Nat → Int → Int → Int → Bool → Option (Bool)
  | 0, _, _, _, _ => none
  | k + 1, x0, x1, x2, x45 => if x45 = true then (some true) else (stipendlaw14_HoldRises.l0 k x1 x2 0 x0 0)
def stipendlaw14_HoldRises.l0 : Nat → Int → Int → Int → Int → Int → Option (Bool)
  | 0, _, _, _, _, _ => none
  | k + 1, x1, x2, x49, x364003, x364004 => if x49 < 2 then (if 0 ≤ x49 then ((hold_Step.f k ([] : List (List (S30))) ([] : List (S130)) ([] : List (S132)) x364003 x364004 0 0 x2 x1 (x49 == 1)).bind fun bt364 => ((hold_Step.f k ([] : List (List (S30))) ([] : List (S130)) ([] : List (S132)) x364003 x364004 0 0 x2 (wrap64 (x1 + 1)) (x49 == 1)).bind fun bt369 => ((hold_Step.f k ([] : List (List (S30))) ([] : List (S130)) ([] : List (S132)) x364003 x364004 0 0 (wrap64 (x2 + 1)) x1 (x49 == 1)).bind fun bt374 => ((hold_Step.f k ([] : List (List (S30))) ([] : List (S130)) ([] : List (S132)) x364003 x364004 0 0 (wrap64 (x2 + 1)) (wrap64 (x1 + 1)) (x49 == 1)).bind fun bt379 => (if (wrap64 ((wrap64 ((wrap64 (bt364.2.2.2 + bt369.2.2.2)) + bt374.2.2.2)) + bt379.2.2.2)) = 0 then (if bt364.1 > bt369.1 then (stipendlaw14_HoldRises.j2 k x1 x2 x49 true x364003 x364004) else (if bt364.1 > bt374.1 then (stipendlaw14_HoldRises.j2 k x1 x2 x49 true x364003 x364004) else (if bt369.1 > bt379.1 then (stipendlaw14_HoldRises.j2 k x1 x2 x49 true x364003 x364004) else (if bt374.1 > bt379.1 then (stipendlaw14_HoldRises.j2 k x1 x2 x49 true x364003 x364004) else (if (wrap64 (bt379.1 - bt364.1)) > 1 then (stipendlaw14_HoldRises.j2 k x1 x2 x49 true x364003 x364004) else (if bt364.1 > x1 then (if x49 = 1 then (stipendlaw14_HoldRises.j2 k x1 x2 x49 true x364003 x364004) else (stipendlaw14_HoldRises.j2 k x1 x2 x49 (decide (bt364.1 < 0)) x364003 x364004)) else (if x49 = 1 then (stipendlaw14_HoldRises.j2 k x1 x2 x49 false x364003 x364004) else (stipendlaw14_HoldRises.j2 k x1 x2 x49 (decide (bt364.1 < 0)) x364003 x364004)))))))) else (stipendlaw14_HoldRises.j2 k x1 x2 x49 true x364003 x364004)))))) else (none)) else (some true)
def stipendlaw14_HoldRises.j2 : Nat → Int → Int → Int → Bool → Int → Int → Option (Bool)
  | 0, _, _, _, _, _, _ => none
  | k + 1, x1, x2, x49, x145, x364003, x364004 => if x145 = true then (some false) else (stipendlaw14_HoldRises.l0 k x1 x2 (wrap64 (x49 + 1)) x364003 x364004)
end
def stipendlaw14_HoldRises.f (k : Nat) (a0 : Int) (a1 : Int) (a2 : Int) : Option (Bool) := (stipendlaw14_holds.f k).bind fun t362 => (if t362 = true then (if a0 < 0 then (stipendlaw14_HoldRises.j0 k a0 a1 a2 true) else (if a0 > 10000 then (stipendlaw14_HoldRises.j0 k a0 a1 a2 true) else (if a1 > 50000000000 then (stipendlaw14_HoldRises.j0 k a0 a1 a2 true) else (if a1 < (-50000000000) then (stipendlaw14_HoldRises.j0 k a0 a1 a2 true) else (if a2 > 50000000000 then (stipendlaw14_HoldRises.j0 k a0 a1 a2 true) else (stipendlaw14_HoldRises.j0 k a0 a1 a2 (decide (a2 < (-50000000000))))))))) else (some false))
theorem stipendlaw14_HoldRises.mono_l : ∀ k, (∀ y0 y1 y2 y3, LeO (stipendlaw14_HoldRises.j0 k y0 y1 y2 y3) (stipendlaw14_HoldRises.j0 (k + 1) y0 y1 y2 y3)) ∧ (∀ y0 y1 y2 y3 y4, LeO (stipendlaw14_HoldRises.l0 k y0 y1 y2 y3 y4) (stipendlaw14_HoldRises.l0 (k + 1) y0 y1 y2 y3 y4)) ∧ (∀ y0 y1 y2 y3 y4 y5, LeO (stipendlaw14_HoldRises.j2 k y0 y1 y2 y3 y4 y5) (stipendlaw14_HoldRises.j2 (k + 1) y0 y1 y2 y3 y4 y5))
  | 0 => ⟨fun _ _ _ _ r h => by simp [stipendlaw14_HoldRises.j0] at h, fun _ _ _ _ _ r h => by simp [stipendlaw14_HoldRises.l0] at h, fun _ _ _ _ _ _ r h => by simp [stipendlaw14_HoldRises.j2] at h⟩
  | k + 1 => by
    obtain ⟨ih0, ih1, ih2⟩ := stipendlaw14_HoldRises.mono_l k
    refine ⟨?_, ?_, ?_⟩
    · intro y0 y1 y2 y3
      unfold stipendlaw14_HoldRises.j0
      repeat' first
      | (with_reducible exact ih0 _ _ _ _)
      | (with_reducible exact ih1 _ _ _ _ _)
      | (with_reducible exact ih2 _ _ _ _ _ _)
      | (with_reducible exact hold_Step.mono _ _ _ _ _ _ _ _ _ _ _)
      | (with_reducible exact stipendlaw14_holds.mono _)
      | (with_reducible exact LeO.refl _)
      | (with_reducible exact LeO.none _)
      | (with_reducible refine LeO.ite ?_ ?_)
      | (with_reducible refine LeO.bind ?_ (fun _ => ?_))
      | exact ih0 _ _ _ _
      | exact ih1 _ _ _ _ _
      | exact ih2 _ _ _ _ _ _
      | exact hold_Step.mono _ _ _ _ _ _ _ _ _ _ _
      | exact stipendlaw14_holds.mono _
      | exact LeO.none _
      | refine LeO.ite ?_ ?_
      | refine LeO.bind ?_ (fun _ => ?_)
    · intro y0 y1 y2 y3 y4
      unfold stipendlaw14_HoldRises.l0
      repeat' first
      | (with_reducible exact ih0 _ _ _ _)
      | (with_reducible exact ih1 _ _ _ _ _)
      | (with_reducible exact ih2 _ _ _ _ _ _)
      | (with_reducible exact hold_Step.mono _ _ _ _ _ _ _ _ _ _ _)
      | (with_reducible exact stipendlaw14_holds.mono _)
      | (with_reducible exact LeO.refl _)
      | (with_reducible exact LeO.none _)
      | (with_reducible refine LeO.ite ?_ ?_)
      | (with_reducible refine LeO.bind ?_ (fun _ => ?_))
      | exact ih0 _ _ _ _
      | exact ih1 _ _ _ _ _
      | exact ih2 _ _ _ _ _ _
      | exact hold_Step.mono _ _ _ _ _ _ _ _ _ _ _
      | exact stipendlaw14_holds.mono _
      | exact LeO.none _
      | refine LeO.ite ?_ ?_
      | refine LeO.bind ?_ (fun _ => ?_)
    · intro y0 y1 y2 y3 y4 y5
      unfold stipendlaw14_HoldRises.j2
      repeat' first
      | (with_reducible exact ih0 _ _ _ _)
      | (with_reducible exact ih1 _ _ _ _ _)
      | (with_reducible exact ih2 _ _ _ _ _ _)
      | (with_reducible exact hold_Step.mono _ _ _ _ _ _ _ _ _ _ _)
      | (with_reducible exact stipendlaw14_holds.mono _)
      | (with_reducible exact LeO.refl _)
      | (with_reducible exact LeO.none _)
      | (with_reducible refine LeO.ite ?_ ?_)
      | (with_reducible refine LeO.bind ?_ (fun _ => ?_))
      | exact ih0 _ _ _ _
      | exact ih1 _ _ _ _ _
      | exact ih2 _ _ _ _ _ _
      | exact hold_Step.mono _ _ _ _ _ _ _ _ _ _ _
      | exact stipendlaw14_holds.mono _
      | exact LeO.none _
      | refine LeO.ite ?_ ?_
      | refine LeO.bind ?_ (fun _ => ?_)
theorem stipendlaw14_HoldRises.mono : ∀ a0 a1 a2 k, LeO (stipendlaw14_HoldRises.f k a0 a1 a2) (stipendlaw14_HoldRises.f (k + 1) a0 a1 a2) := by
  intro a0 a1 a2 k
  obtain ⟨ih0, ih1, ih2⟩ := stipendlaw14_HoldRises.mono_l k
  unfold stipendlaw14_HoldRises.f
  repeat' first
      | (with_reducible exact ih0 _ _ _ _)
      | (with_reducible exact ih1 _ _ _ _ _)
      | (with_reducible exact ih2 _ _ _ _ _ _)
      | (with_reducible exact hold_Step.mono _ _ _ _ _ _ _ _ _ _ _)
      | (with_reducible exact stipendlaw14_holds.mono _)
      | (with_reducible exact LeO.refl _)
      | (with_reducible exact LeO.none _)
      | (with_reducible refine LeO.ite ?_ ?_)
      | (with_reducible refine LeO.bind ?_ (fun _ => ?_))
      | exact ih0 _ _ _ _
      | exact ih1 _ _ _ _ _
      | exact ih2 _ _ _ _ _ _
      | exact hold_Step.mono _ _ _ _ _ _ _ _ _ _ _
      | exact stipendlaw14_holds.mono _
      | exact LeO.none _
      | refine LeO.ite ?_ ?_
      | refine LeO.bind ?_ (fun _ => ?_)
theorem bools_at {i : Int} (h0 : 0 ≤ i) (h1 : i < 2) (W : World) : Sem.run Try.prog (Instr.index 67 (Value.agg #[Value.bool false, Value.bool true]) (Value.int .i64 i)) W = Result.ok (.bool (i == 1)) W := by
  have : i = 0 ∨ i = 1 := by omega
  have hu := Try.underlying67
  rcases this with rfl | rfl
  · simp [Instr.index, asIntOf, go_sem, run_underlying hu]
  · simp [Instr.index, asIntOf, go_sem, run_underlying hu]
set_option maxHeartbeats 8000000 in
set_option maxRecDepth 100000 in
theorem stipendlaw14_HoldRises.calls (k : Nat) (a0 : Int) (a1 : Int) (a2 : Int) (r : Bool) (w : World) (h : stipendlaw14_HoldRises.f k a0 a1 a2 = some r) :
    Calls Try.prog 7 #[.int .i64 a0, .int .i64 a1, .int .i64 a2] w fun e w' => e = .returned (.bool r) ∧ Below w.heap.size w w' := by
  have hu55 := Try.underlying55
  have hu67 := Try.underlying67
  have hu47 := Try.underlying47
  have HB := Aside0.mk (Below.refl w.heap.size w)
  have H : ((stipendlaw14_holds.f k).bind fun t362 => (if t362 = true then (if a0 < 0 then (stipendlaw14_HoldRises.j0 k a0 a1 a2 true) else (if a0 > 10000 then (stipendlaw14_HoldRises.j0 k a0 a1 a2 true) else (if a1 > 50000000000 then (stipendlaw14_HoldRises.j0 k a0 a1 a2 true) else (if a1 < (-50000000000) then (stipendlaw14_HoldRises.j0 k a0 a1 a2 true) else (if a2 > 50000000000 then (stipendlaw14_HoldRises.j0 k a0 a1 a2 true) else (stipendlaw14_HoldRises.j0 k a0 a1 a2 (decide (a2 < (-50000000000))))))))) else (some false))) = some r := h
  clear h
  replace H := Option.bind_eq_some_iff.mp H
  obtain ⟨t362, A40, H⟩ := H
  replace H : (if t362 = true then (if a0 < 0 then (stipendlaw14_HoldRises.j0 k a0 a1 a2 true) else (if a0 > 10000 then (stipendlaw14_HoldRises.j0 k a0 a1 a2 true) else (if a1 > 50000000000 then (stipendlaw14_HoldRises.j0 k a0 a1 a2 true) else (if a1 < (-50000000000) then (stipendlaw14_HoldRises.j0 k a0 a1 a2 true) else (if a2 > 50000000000 then (stipendlaw14_HoldRises.j0 k a0 a1 a2 true) else (stipendlaw14_HoldRises.j0 k a0 a1 a2 (decide (a2 < (-50000000000))))))))) else (some false)) = some r := H
  have A4 := Aside0.mk A40
  clear A40
  by_cases c5 : t362 = true
  · subst c5
    have H1 : (if a0 < 0 then (stipendlaw14_HoldRises.j0 k a0 a1 a2 true) else (if a0 > 10000 then (stipendlaw14_HoldRises.j0 k a0 a1 a2 true) else (if a1 > 50000000000 then (stipendlaw14_HoldRises.j0 k a0 a1 a2 true) else (if a1 < (-50000000000) then (stipendlaw14_HoldRises.j0 k a0 a1 a2 true) else (if a2 > 50000000000 then (stipendlaw14_HoldRises.j0 k a0 a1 a2 true) else (stipendlaw14_HoldRises.j0 k a0 a1 a2 (decide (a2 < (-50000000000))))))))) = some r := by rw [if_pos rfl] at H; exact H
    clear H
    have H := H1
    clear H1
    have HC6 := Aside0.mk H
    clear H
    go_enter Try.func7, Try.ntmps7
    go_upto_region 3 with (first | ((with_reducible refine gate_callee (f := 24) rfl ?_); refine goesL_ (some 22) rfl rfl Try.func24 (by kernel_rfl) rfl #[] rfl (by (try simp only [List.map_toArray, List.map_cons, List.map_nil]); first | done | rfl | (simp only [List.length_drop, List.length_take]; rfl)) ?_; (with_reducible refine (stipendlaw14_holds.calls k  true _ A4.out).mono ?_); rintro e w7 ⟨rfl, hb⟩; refine ⟨_, rfl, ?_⟩; have n0_ := Aside0.mk (below_step (by repeat (first | (with_reducible first | exact HB.out | apply below_alloc | apply pw_below_drewN | apply below_drew1) | exact HB.out)) hb); clear HB; have HB := n0_; clear n0_; (try clear hb); (try clear hb2); (try clear hk); (try clear hi)))
    (try simp only [Act.put, List.setIfInBounds_toArray, List.set_cons_zero, List.set_cons_succ])
    go_cut [45] (fun v45 wc => ∃ (kq : Nat) (x45_5 : Bool), v45 = .bool x45_5 ∧ Aside0 (stipendlaw14_HoldRises.j0 kq a0 a1 a2 x45_5 = some r) ∧ Aside0 (kq ≤ k) ∧ Aside0 (Below w.heap.size w wc))
    case first => as_aux_lemma =>
      have H := HC6.out
      clear HC6
      by_cases c8 : a0 < 0
      · rw [if_pos c8] at H
        have c8b0 : decide (a0 < 0) = true := decide_eq_true c8
        clear c8
        (first | rw [c8b0] | (simp only [i64_w, i32_w]; rw [c8b0]) | skip)
        have H' := Aside0.mk H
        clear H
        go_wp2
        go_meet
        case rel => exact ⟨_, (true), (by first | rfl | (simp; done) | (simp [*]; done)), H', ⟨by first | omega | exact Nat.le_refl _⟩, ⟨by repeat (first | (with_reducible first | exact HB.out | apply below_alloc | apply pw_below_drewN | apply below_drew1) | exact HB.out)⟩⟩
      · rw [if_neg c8] at H
        have c8b0 : decide (a0 < 0) = false := decide_eq_false c8
        clear c8
        (first | rw [c8b0] | (simp only [i64_w, i32_w]; rw [c8b0]) | skip)
        by_cases c9 : a0 > 10000
        · rw [if_pos c9] at H
          have c9b0 : decide (10000 < a0) = true := decide_eq_true c9
          clear c9
          have H' := Aside0.mk H
          clear H
          go_wp2
          go_meet
          case rel => exact ⟨_, (true), (by first | rfl | (simp; done) | (simp [*]; done)), H', ⟨by first | omega | exact Nat.le_refl _⟩, ⟨by repeat (first | (with_reducible first | exact HB.out | apply below_alloc | apply pw_below_drewN | apply below_drew1) | exact HB.out)⟩⟩
        · rw [if_neg c9] at H
          have c9b0 : decide (10000 < a0) = false := decide_eq_false c9
          clear c9
          by_cases c10 : a1 > 50000000000
          · rw [if_pos c10] at H
            have c10b0 : decide (50000000000 < a1) = true := decide_eq_true c10
            clear c10
            have H' := Aside0.mk H
            clear H
            go_wp2
            go_meet
            case rel => exact ⟨_, (true), (by first | rfl | (simp; done) | (simp [*]; done)), H', ⟨by first | omega | exact Nat.le_refl _⟩, ⟨by repeat (first | (with_reducible first | exact HB.out | apply below_alloc | apply pw_below_drewN | apply below_drew1) | exact HB.out)⟩⟩
          · rw [if_neg c10] at H
            have c10b0 : decide (50000000000 < a1) = false := decide_eq_false c10
            clear c10
            by_cases c11 : a1 < (-50000000000)
            · rw [if_pos c11] at H
              have c11b0 : decide (a1 < (-50000000000)) = true := decide_eq_true c11
              clear c11
              have H' := Aside0.mk H
              clear H
              go_wp2
              go_meet
              case rel => exact ⟨_, (true), (by first | rfl | (simp; done) | (simp [*]; done)), H', ⟨by first | omega | exact Nat.le_refl _⟩, ⟨by repeat (first | (with_reducible first | exact HB.out | apply below_alloc | apply pw_below_drewN | apply below_drew1) | exact HB.out)⟩⟩
            · rw [if_neg c11] at H
              have c11b0 : decide (a1 < (-50000000000)) = false := decide_eq_false c11
              clear c11
              by_cases c12 : a2 > 50000000000
              · rw [if_pos c12] at H
                have c12b0 : decide (50000000000 < a2) = true := decide_eq_true c12
                clear c12
                have H' := Aside0.mk H
                clear H
                go_wp2
                go_meet
                case rel => exact ⟨_, (true), (by first | rfl | (simp; done) | (simp [*]; done)), H', ⟨by first | omega | exact Nat.le_refl _⟩, ⟨by repeat (first | (with_reducible first | exact HB.out | apply below_alloc | apply pw_below_drewN | apply below_drew1) | exact HB.out)⟩⟩
              · rw [if_neg c12] at H
                have c12b0 : decide (50000000000 < a2) = false := decide_eq_false c12
                clear c12
                have H' := Aside0.mk H
                clear H
                go_wp2
                go_meet
                case rel => exact ⟨_, (decide (a2 < (-50000000000))), (by first | rfl | (simp; done) | (simp [*]; done)), H', ⟨by first | omega | exact Nat.le_refl _⟩, ⟨by repeat (first | (with_reducible first | exact HB.out | apply below_alloc | apply pw_below_drewN | apply below_drew1) | exact HB.out)⟩⟩
    case rest => as_aux_lemma =>
      clear HC6
      try clear c1
      try clear c2
      try clear p2
      try clear c5
      try clear c7
      try clear c8
      try clear c8b0
      try clear c9
      try clear c9b0
      try clear c10
      try clear c10b0
      try clear c11
      try clear c11b0
      try clear c12
      try clear c12b0
      obtain ⟨kq, x45_5, rfl, HA, HJ5, HB⟩ := hcut
      cases kq with
      | zero => exact absurd HA.out (by simp [stipendlaw14_HoldRises.j0])
      | succ kj5 =>
        have H := HA.out
        clear HA
        simp only [stipendlaw14_HoldRises.j0] at H
        by_cases c13 : x45_5 = true
        · subst c13
          have H1 : (some true) = some r := by rw [if_pos rfl] at H; exact H
          clear H
          have H := H1
          clear H1
          obtain rfl := Option.some.inj H
          go_wp2
          go_ret
          exact ⟨by first | rfl | (simp [errW_none, errW_some] <;> rfl) | (simp [*, errW_none, errW_some] <;> rfl), by repeat (first | (with_reducible first | exact HB.out | apply below_alloc | apply pw_below_drewN | apply below_drew1) | exact HB.out)⟩
        · replace c13 := Bool.eq_false_iff.mpr c13
          subst c13
          have H1 : (stipendlaw14_HoldRises.l0 kj5 a1 a2 0 a0 0) = some r := by rw [if_neg (show ¬ (false = true) by decide)] at H; exact H
          clear H
          have H := H1
          clear H1
          have H' := Aside0.mk H
          clear H
          go_wp2_with (first | ((with_reducible refine gate_dst (N := 7) rfl ?_); refine box_event ?hg (N := 7) ?hd (cs := #[.slice none 0 0, .slice none 0 0, .slice none 0 0, .int .i64 0, .int .i64 0]) (t := 55) ?hr ?_; (case hd => rfl); (case hg => rfl); (case hr => first | (go_simp; done) | (go_simp; rfl)); intro gb363 hg w14 hbox hb; have n0_ := Aside0.mk (below_step (by repeat (first | (with_reducible first | exact HB.out | apply below_alloc | apply pw_below_drewN | apply below_drew1) | exact HB.out)) hb); have n1_ := Aside0.mk (hbox); have n2_ := Aside0.mk ((by rw [hg]; exact (below_size (by repeat (first | (with_reducible first | exact HB.out | apply below_alloc | apply pw_below_drewN | apply below_drew1) | exact HB.out))) : w.heap.size ≤ gb363)); have n3_ := Aside0.mk ((by rw [hg]; exact (below_size (by repeat (first | (with_reducible first | exact HB.out | apply below_alloc | apply pw_below_drewN | apply below_drew1) | exact HB.out))) : w.heap.size ≤ gb363)); clear HB; have HB := n0_; have BK363 := n1_; have GW363 := n2_; have GE363 := n3_; clear n0_ n1_ n2_ n3_; clear hb hbox hg; have hcz15_0 : w14.cell? ⟨gb363, 0, none⟩ = some (.slice none 0 0) := (blk_cell BK363.out 0).trans rfl; have hcz15_1 : w14.cell? ⟨gb363, 1, none⟩ = some (.slice none 0 0) := (blk_cell BK363.out 1).trans rfl; have hcz15_2 : w14.cell? ⟨gb363, 2, none⟩ = some (.slice none 0 0) := (blk_cell BK363.out 2).trans rfl; have hcz15_3 : w14.cell? ⟨gb363, 3, none⟩ = some (.int .i64 0) := (blk_cell BK363.out 3).trans rfl; have hcz15_4 : w14.cell? ⟨gb363, 4, none⟩ = some (.int .i64 0) := (blk_cell BK363.out 4).trans rfl; have hfz15_0 := blk_frozen BK363.out 0; have hfz15_1 := blk_frozen BK363.out 1; have hfz15_2 := blk_frozen BK363.out 2; have hfz15_3 := blk_frozen BK363.out 3; have hfz15_4 := blk_frozen BK363.out 4))
          go_loopg [49] kj5 (fun kq v49 w' => ∃ (x49_2 : Int), v49 = .int .i64 x49_2 ∧ Aside0 (stipendlaw14_HoldRises.l0 kq a1 a2 x49_2 a0 0 = some r) ∧ Aside0 (kq ≤ kj5) ∧ Aside0 (w'.heap[gb363]? = some (.cells #[(.slice none 0 0), (.slice none 0 0), (.slice none 0 0), .int .i64 a0, .int .i64 0] 55 (0, 0))) ∧ Aside0 (Below w.heap.size w w'))
          case atStart => exact ⟨(0), (by first | rfl | (simp; done) | (simp [*]; done)), H', ⟨Nat.le_refl _⟩, ⟨by (with_reducible repeat (first | refine blk_drewN ?_ _ | refine blk_drew ?_ | refine blk_alloc ?_ _)); refine blk_put (cs := #[.slice none 0 0, .slice none 0 0, .slice none 0 0, .int .i64 a0, .int .i64 0]) ?_ 4 _ rfl; (with_reducible repeat (first | refine blk_drewN ?_ _ | refine blk_drew ?_ | refine blk_alloc ?_ _)); refine blk_put (cs := #[.slice none 0 0, .slice none 0 0, .slice none 0 0, .int .i64 0, .int .i64 0]) ?_ 3 _ rfl; (with_reducible repeat (first | refine blk_drewN ?_ _ | refine blk_drew ?_ | refine blk_alloc ?_ _)); refine blk_put (cs := #[.slice none 0 0, .slice none 0 0, .slice none 0 0, .int .i64 0, .int .i64 0]) ?_ 2 _ rfl; (with_reducible repeat (first | refine blk_drewN ?_ _ | refine blk_drew ?_ | refine blk_alloc ?_ _)); refine blk_put (cs := #[.slice none 0 0, .slice none 0 0, .slice none 0 0, .int .i64 0, .int .i64 0]) ?_ 1 _ rfl; (with_reducible repeat (first | refine blk_drewN ?_ _ | refine blk_drew ?_ | refine blk_alloc ?_ _)); refine blk_put (cs := #[.slice none 0 0, .slice none 0 0, .slice none 0 0, .int .i64 0, .int .i64 0]) ?_ 0 _ rfl; (with_reducible repeat (first | refine blk_drewN ?_ _ | refine blk_drew ?_ | refine blk_alloc ?_ _)); exact BK363.out⟩, ⟨by repeat (first | (with_reducible first | exact HB.out | apply below_alloc | apply pw_below_drewN | apply below_drew1 | refine below_set ?_ GE363.out) | exact HB.out)⟩⟩
          case round =>
            clear H'
            try clear c1
            try clear c2
            try clear p2
            try clear c5
            try clear c7
            try clear c8
            try clear c8b0
            try clear c9
            try clear c9b0
            try clear c10
            try clear c10b0
            try clear c11
            try clear c11b0
            try clear c12
            try clear c12b0
            try clear c13
            try clear hcz15_0
            try clear hcz15_1
            try clear hcz15_2
            try clear hcz15_3
            try clear hcz15_4
            try clear hfz15_0
            try clear hfz15_1
            try clear hfz15_2
            try clear hfz15_3
            try clear hfz15_4
            try clear p2
            obtain ⟨x49_2, rfl, HA, HK2, BK363, HB⟩ := hrel
            cases gk with
            | zero => exact absurd HA.out (by simp [stipendlaw14_HoldRises.l0])
            | succ k2 =>
              have H := HA.out
              clear HA
              simp only [stipendlaw14_HoldRises.l0] at H
              by_cases c16 : x49_2 < 2
              · rw [if_pos c16] at H
                have c16b0 : decide (x49_2 < 2) = true := decide_eq_true c16
                clear c16
                by_cases c17 : 0 ≤ x49_2
                · rw [if_pos c17] at H
                  have c17b0 : decide (0 ≤ x49_2) = true := decide_eq_true c17
                  have p49 : 0 ≤ x49_2 := of_decide_eq_true c17b0
                  have q49 : x49_2 < 2 := of_decide_eq_true (by assumption)
                  have hx49 := fun W => bools_at p49 q49 W
                  replace p49 := eq_true p49
                  replace q49 := eq_true q49
                  clear c17
                  replace H := Option.bind_eq_some_iff.mp H
                  obtain ⟨⟨t364, t365, t366, t367⟩, A180, H⟩ := H
                  replace H : ((hold_Step.f k2 ([] : List (List (S30))) ([] : List (S130)) ([] : List (S132)) a0 0 0 0 a2 (wrap64 (a1 + 1)) (x49_2 == 1)).bind fun bt369 => ((hold_Step.f k2 ([] : List (List (S30))) ([] : List (S130)) ([] : List (S132)) a0 0 0 0 (wrap64 (a2 + 1)) a1 (x49_2 == 1)).bind fun bt374 => ((hold_Step.f k2 ([] : List (List (S30))) ([] : List (S130)) ([] : List (S132)) a0 0 0 0 (wrap64 (a2 + 1)) (wrap64 (a1 + 1)) (x49_2 == 1)).bind fun bt379 => (if (wrap64 ((wrap64 ((wrap64 (t367 + bt369.2.2.2)) + bt374.2.2.2)) + bt379.2.2.2)) = 0 then (if t364 > bt369.1 then (stipendlaw14_HoldRises.j2 k2 a1 a2 x49_2 true a0 0) else (if t364 > bt374.1 then (stipendlaw14_HoldRises.j2 k2 a1 a2 x49_2 true a0 0) else (if bt369.1 > bt379.1 then (stipendlaw14_HoldRises.j2 k2 a1 a2 x49_2 true a0 0) else (if bt374.1 > bt379.1 then (stipendlaw14_HoldRises.j2 k2 a1 a2 x49_2 true a0 0) else (if (wrap64 (bt379.1 - t364)) > 1 then (stipendlaw14_HoldRises.j2 k2 a1 a2 x49_2 true a0 0) else (if t364 > a1 then (if x49_2 = 1 then (stipendlaw14_HoldRises.j2 k2 a1 a2 x49_2 true a0 0) else (stipendlaw14_HoldRises.j2 k2 a1 a2 x49_2 (decide (t364 < 0)) a0 0)) else (if x49_2 = 1 then (stipendlaw14_HoldRises.j2 k2 a1 a2 x49_2 false a0 0) else (stipendlaw14_HoldRises.j2 k2 a1 a2 x49_2 (decide (t364 < 0)) a0 0)))))))) else (stipendlaw14_HoldRises.j2 k2 a1 a2 x49_2 true a0 0))))) = some r := H
                  have A18 := Aside0.mk A180
                  clear A180
                  replace H := Option.bind_eq_some_iff.mp H
                  obtain ⟨⟨t369, t370, t371, t372⟩, A190, H⟩ := H
                  replace H : ((hold_Step.f k2 ([] : List (List (S30))) ([] : List (S130)) ([] : List (S132)) a0 0 0 0 (wrap64 (a2 + 1)) a1 (x49_2 == 1)).bind fun bt374 => ((hold_Step.f k2 ([] : List (List (S30))) ([] : List (S130)) ([] : List (S132)) a0 0 0 0 (wrap64 (a2 + 1)) (wrap64 (a1 + 1)) (x49_2 == 1)).bind fun bt379 => (if (wrap64 ((wrap64 ((wrap64 (t367 + t372)) + bt374.2.2.2)) + bt379.2.2.2)) = 0 then (if t364 > t369 then (stipendlaw14_HoldRises.j2 k2 a1 a2 x49_2 true a0 0) else (if t364 > bt374.1 then (stipendlaw14_HoldRises.j2 k2 a1 a2 x49_2 true a0 0) else (if t369 > bt379.1 then (stipendlaw14_HoldRises.j2 k2 a1 a2 x49_2 true a0 0) else (if bt374.1 > bt379.1 then (stipendlaw14_HoldRises.j2 k2 a1 a2 x49_2 true a0 0) else (if (wrap64 (bt379.1 - t364)) > 1 then (stipendlaw14_HoldRises.j2 k2 a1 a2 x49_2 true a0 0) else (if t364 > a1 then (if x49_2 = 1 then (stipendlaw14_HoldRises.j2 k2 a1 a2 x49_2 true a0 0) else (stipendlaw14_HoldRises.j2 k2 a1 a2 x49_2 (decide (t364 < 0)) a0 0)) else (if x49_2 = 1 then (stipendlaw14_HoldRises.j2 k2 a1 a2 x49_2 false a0 0) else (stipendlaw14_HoldRises.j2 k2 a1 a2 x49_2 (decide (t364 < 0)) a0 0)))))))) else (stipendlaw14_HoldRises.j2 k2 a1 a2 x49_2 true a0 0)))) = some r := H
                  have A19 := Aside0.mk A190
                  clear A190
                  replace H := Option.bind_eq_some_iff.mp H
                  obtain ⟨⟨t374, t375, t376, t377⟩, A200, H⟩ := H
                  replace H : ((hold_Step.f k2 ([] : List (List (S30))) ([] : List (S130)) ([] : List (S132)) a0 0 0 0 (wrap64 (a2 + 1)) (wrap64 (a1 + 1)) (x49_2 == 1)).bind fun bt379 => (if (wrap64 ((wrap64 ((wrap64 (t367 + t372)) + t377)) + bt379.2.2.2)) = 0 then (if t364 > t369 then (stipendlaw14_HoldRises.j2 k2 a1 a2 x49_2 true a0 0) else (if t364 > t374 then (stipendlaw14_HoldRises.j2 k2 a1 a2 x49_2 true a0 0) else (if t369 > bt379.1 then (stipendlaw14_HoldRises.j2 k2 a1 a2 x49_2 true a0 0) else (if t374 > bt379.1 then (stipendlaw14_HoldRises.j2 k2 a1 a2 x49_2 true a0 0) else (if (wrap64 (bt379.1 - t364)) > 1 then (stipendlaw14_HoldRises.j2 k2 a1 a2 x49_2 true a0 0) else (if t364 > a1 then (if x49_2 = 1 then (stipendlaw14_HoldRises.j2 k2 a1 a2 x49_2 true a0 0) else (stipendlaw14_HoldRises.j2 k2 a1 a2 x49_2 (decide (t364 < 0)) a0 0)) else (if x49_2 = 1 then (stipendlaw14_HoldRises.j2 k2 a1 a2 x49_2 false a0 0) else (stipendlaw14_HoldRises.j2 k2 a1 a2 x49_2 (decide (t364 < 0)) a0 0)))))))) else (stipendlaw14_HoldRises.j2 k2 a1 a2 x49_2 true a0 0))) = some r := H
                  have A20 := Aside0.mk A200
                  clear A200
                  replace H := Option.bind_eq_some_iff.mp H
                  obtain ⟨⟨t379, t380, t381, t382⟩, A210, H⟩ := H
                  replace H : (if (wrap64 ((wrap64 ((wrap64 (t367 + t372)) + t377)) + t382)) = 0 then (if t364 > t369 then (stipendlaw14_HoldRises.j2 k2 a1 a2 x49_2 true a0 0) else (if t364 > t374 then (stipendlaw14_HoldRises.j2 k2 a1 a2 x49_2 true a0 0) else (if t369 > t379 then (stipendlaw14_HoldRises.j2 k2 a1 a2 x49_2 true a0 0) else (if t374 > t379 then (stipendlaw14_HoldRises.j2 k2 a1 a2 x49_2 true a0 0) else (if (wrap64 (t379 - t364)) > 1 then (stipendlaw14_HoldRises.j2 k2 a1 a2 x49_2 true a0 0) else (if t364 > a1 then (if x49_2 = 1 then (stipendlaw14_HoldRises.j2 k2 a1 a2 x49_2 true a0 0) else (stipendlaw14_HoldRises.j2 k2 a1 a2 x49_2 (decide (t364 < 0)) a0 0)) else (if x49_2 = 1 then (stipendlaw14_HoldRises.j2 k2 a1 a2 x49_2 false a0 0) else (stipendlaw14_HoldRises.j2 k2 a1 a2 x49_2 (decide (t364 < 0)) a0 0)))))))) else (stipendlaw14_HoldRises.j2 k2 a1 a2 x49_2 true a0 0)) = some r := H
                  have A21 := Aside0.mk A210
                  clear A210
                  have HC22 := Aside0.mk H
                  clear H
                  have hcz23_0 : wr.cell? ⟨gb363, 0, none⟩ = some (.slice none 0 0) := (blk_cell BK363.out 0).trans rfl
                  have hcz23_1 : wr.cell? ⟨gb363, 1, none⟩ = some (.slice none 0 0) := (blk_cell BK363.out 1).trans rfl
                  have hcz23_2 : wr.cell? ⟨gb363, 2, none⟩ = some (.slice none 0 0) := (blk_cell BK363.out 2).trans rfl
                  have hcz23_3 : wr.cell? ⟨gb363, 3, none⟩ = some (.int .i64 a0) := (blk_cell BK363.out 3).trans rfl
                  have hcz23_4 : wr.cell? ⟨gb363, 4, none⟩ = some (.int .i64 0) := (blk_cell BK363.out 4).trans rfl
                  have hfz23_0 := blk_frozen BK363.out 0
                  have hfz23_1 := blk_frozen BK363.out 1
                  have hfz23_2 := blk_frozen BK363.out 2
                  have hfz23_3 := blk_frozen BK363.out 3
                  have hfz23_4 := blk_frozen BK363.out 4
                  go_upto_region 13 with (first | ((with_reducible refine gate_callee (f := 25) rfl ?_); refine goesL_ (some 58) rfl rfl Try.func25 (by kernel_rfl) rfl #[.agg #[.slice none 0 0, .slice none 0 0, .slice none 0 0, .int .i64 a0, .int .i64 0], .agg #[.int .i64 0, .int .i64 0], .int .i64 a2, .int .i64 a1, .bool (x49_2 == 1)] rfl (by (try simp only [List.map_toArray, List.map_cons, List.map_nil]); first | done | rfl | (simp only [List.length_drop, List.length_take]; rfl)) ?_; (refine (hold_Step.calls k2 _ _ ([] : List (List (S30))) _ _ ([] : List (S130)) _ _ ([] : List (S132)) a0 0 0 0 a2 a1 (x49_2 == 1) t364 t365 t366 t367 _ ?side1 ?side2 ?side3 ?side4 ?side5 ?side6 A18.out).mono ?_); (case side1 => exact Kd.C_nil _ _); (case side2 => exact Nat.le_refl _); (case side3 => exact Kd.C_nil _ _); (case side4 => exact Nat.le_refl _); (case side5 => exact Kd.C_nil _ _); (case side6 => exact Nat.le_refl _); rintro e w24 ⟨rfl, hb⟩; refine ⟨_, rfl, ?_⟩; have n0_ := Aside0.mk (blk_below (g := gb363) (o := .cells #[.slice none 0 0, .slice none 0 0, .slice none 0 0, .int .i64 a0, .int .i64 0] 55 (0, 0)) (by (with_reducible repeat (first | refine blk_drewN ?_ _ | refine blk_drew ?_ | refine blk_alloc ?_ _)); exact BK363.out) hb); have n1_ := Aside0.mk (below_step (by repeat (first | (with_reducible first | exact HB.out | apply below_alloc | apply pw_below_drewN | apply below_drew1 | refine below_set ?_ GE363.out) | exact HB.out)) hb); clear BK363; clear HB; have BK363 := n0_; have HB := n1_; clear n0_ n1_; (try clear hb); (try clear hb2); (try clear hk); (try clear hi)) | ((with_reducible refine gate_dst (N := 11) rfl ?_); refine box_event ?hg (N := 11) ?hd (cs := #[.int .i64 0, .int .i64 0]) (t := 47) ?hr ?_; (case hd => rfl); (case hg => rfl); (case hr => first | (go_simp; done) | (go_simp; rfl)); intro gb368 hg w25 hbox hb; have n0_ := Aside0.mk (blk_below (g := gb363) (o := .cells #[.slice none 0 0, .slice none 0 0, .slice none 0 0, .int .i64 a0, .int .i64 0] 55 (0, 0)) (by (with_reducible repeat (first | refine blk_drewN ?_ _ | refine blk_drew ?_ | refine blk_alloc ?_ _)); exact BK363.out) hb); have n1_ := Aside0.mk (below_step (by repeat (first | (with_reducible first | exact HB.out | apply below_alloc | apply pw_below_drewN | apply below_drew1 | refine below_set ?_ GE363.out) | exact HB.out)) hb); have n2_ := Aside0.mk (hbox); have n3_ := Aside0.mk ((by rw [hg]; exact (below_size (by repeat (first | (with_reducible first | exact HB.out | apply below_alloc | apply pw_below_drewN | apply below_drew1 | refine below_set ?_ GE363.out) | exact HB.out))) : w.heap.size ≤ gb368)); have n4_ := Aside0.mk ((by rw [hg]; exact (below_size (by repeat (first | (with_reducible first | exact HB.out | apply below_alloc | apply pw_below_drewN | apply below_drew1 | refine below_set ?_ GE363.out) | exact HB.out))) : w.heap.size ≤ gb368)); have n5_ := Aside0.mk ((by rw [hg]; exact Nat.ne_of_lt (blk_lt (g := gb363) (o := .cells #[.slice none 0 0, .slice none 0 0, .slice none 0 0, .int .i64 a0, .int .i64 0] 55 (0, 0)) (by (with_reducible repeat (first | refine blk_drewN ?_ _ | refine blk_drew ?_ | refine blk_alloc ?_ _)); exact BK363.out)) : gb363 ≠ gb368)); have n6_ := Aside0.mk ((by rw [hg]; exact Nat.ne_of_gt (blk_lt (g := gb363) (o := .cells #[.slice none 0 0, .slice none 0 0, .slice none 0 0, .int .i64 a0, .int .i64 0] 55 (0, 0)) (by (with_reducible repeat (first | refine blk_drewN ?_ _ | refine blk_drew ?_ | refine blk_alloc ?_ _)); exact BK363.out)) : gb368 ≠ gb363)); clear BK363; clear HB; have BK363 := n0_; have HB := n1_; have BK368 := n2_; have GW368 := n3_; have GE368 := n4_; have NB363_368 := n5_; have NB368_363 := n6_; clear n0_ n1_ n2_ n3_ n4_ n5_ n6_; clear hb hbox hg; have hnb26 := NB368_363.out; have hnc26 := NB363_368.out; have hcz27_0 : w25.cell? ⟨gb368, 0, none⟩ = some (.int .i64 0) := (blk_cell BK368.out 0).trans rfl; have hcz27_1 : w25.cell? ⟨gb368, 1, none⟩ = some (.int .i64 0) := (blk_cell BK368.out 1).trans rfl; have hfz27_0 := blk_frozen BK368.out 0; have hfz27_1 := blk_frozen BK368.out 1; have hcz28_0 : w25.cell? ⟨gb363, 0, none⟩ = some (.slice none 0 0) := (blk_cell BK363.out 0).trans rfl; have hcz28_1 : w25.cell? ⟨gb363, 1, none⟩ = some (.slice none 0 0) := (blk_cell BK363.out 1).trans rfl; have hcz28_2 : w25.cell? ⟨gb363, 2, none⟩ = some (.slice none 0 0) := (blk_cell BK363.out 2).trans rfl; have hcz28_3 : w25.cell? ⟨gb363, 3, none⟩ = some (.int .i64 a0) := (blk_cell BK363.out 3).trans rfl; have hcz28_4 : w25.cell? ⟨gb363, 4, none⟩ = some (.int .i64 0) := (blk_cell BK363.out 4).trans rfl; have hfz28_0 := blk_frozen BK363.out 0; have hfz28_1 := blk_frozen BK363.out 1; have hfz28_2 := blk_frozen BK363.out 2; have hfz28_3 := blk_frozen BK363.out 3; have hfz28_4 := blk_frozen BK363.out 4) | ((with_reducible refine gate_callee (f := 25) rfl ?_); refine goesL_ (some 69) rfl rfl Try.func25 (by kernel_rfl) rfl #[.agg #[.slice none 0 0, .slice none 0 0, .slice none 0 0, .int .i64 a0, .int .i64 0], .agg #[.int .i64 0, .int .i64 0], .int .i64 a2, .int .i64 (wrap64 (a1 + 1)), .bool (x49_2 == 1)] rfl (by (try simp only [List.map_toArray, List.map_cons, List.map_nil]); first | done | rfl | (simp only [List.length_drop, List.length_take]; rfl)) ?_; (refine (hold_Step.calls k2 _ _ ([] : List (List (S30))) _ _ ([] : List (S130)) _ _ ([] : List (S132)) a0 0 0 0 a2 (wrap64 (a1 + 1)) (x49_2 == 1) t369 t370 t371 t372 _ ?side1 ?side2 ?side3 ?side4 ?side5 ?side6 A19.out).mono ?_); (case side1 => exact Kd.C_nil _ _); (case side2 => exact Nat.le_refl _); (case side3 => exact Kd.C_nil _ _); (case side4 => exact Nat.le_refl _); (case side5 => exact Kd.C_nil _ _); (case side6 => exact Nat.le_refl _); rintro e w29 ⟨rfl, hb⟩; refine ⟨_, rfl, ?_⟩; have n0_ := Aside0.mk (blk_below (g := gb363) (o := .cells #[.slice none 0 0, .slice none 0 0, .slice none 0 0, .int .i64 a0, .int .i64 0] 55 (0, 0)) (by (with_reducible repeat (first | refine blk_drewN ?_ _ | refine blk_drew ?_ | refine blk_alloc ?_ _)); refine blk_far ?_ NB363_368.out _; (with_reducible repeat (first | refine blk_drewN ?_ _ | refine blk_drew ?_ | refine blk_alloc ?_ _)); refine blk_far ?_ NB363_368.out _; (with_reducible repeat (first | refine blk_drewN ?_ _ | refine blk_drew ?_ | refine blk_alloc ?_ _)); exact BK363.out) hb); have n1_ := Aside0.mk (blk_below (g := gb368) (o := .cells #[.int .i64 t365, .int .i64 t366] 47 (0, 0)) (by (with_reducible repeat (first | refine blk_drewN ?_ _ | refine blk_drew ?_ | refine blk_alloc ?_ _)); refine blk_put (cs := #[.int .i64 t365, .int .i64 0]) ?_ 1 _ rfl; (with_reducible repeat (first | refine blk_drewN ?_ _ | refine blk_drew ?_ | refine blk_alloc ?_ _)); refine blk_put (cs := #[.int .i64 0, .int .i64 0]) ?_ 0 _ rfl; (with_reducible repeat (first | refine blk_drewN ?_ _ | refine blk_drew ?_ | refine blk_alloc ?_ _)); exact BK368.out) hb); have n2_ := Aside0.mk (below_step (by repeat (first | (with_reducible first | exact HB.out | apply below_alloc | apply pw_below_drewN | apply below_drew1 | refine below_set ?_ GE363.out | refine below_set ?_ GE368.out) | exact HB.out)) hb); clear BK363; clear BK368; clear HB; have BK363 := n0_; have BK368 := n1_; have HB := n2_; clear n0_ n1_ n2_; (try clear hb); (try clear hb2); (try clear hk); (try clear hi)) | ((with_reducible refine gate_dst (N := 14) rfl ?_); refine box_event ?hg (N := 14) ?hd (cs := #[.int .i64 0, .int .i64 0]) (t := 47) ?hr ?_; (case hd => rfl); (case hg => rfl); (case hr => first | (go_simp; done) | (go_simp; rfl)); intro gb373 hg w30 hbox hb; have n0_ := Aside0.mk (blk_below (g := gb363) (o := .cells #[.slice none 0 0, .slice none 0 0, .slice none 0 0, .int .i64 a0, .int .i64 0] 55 (0, 0)) (by (with_reducible repeat (first | refine blk_drewN ?_ _ | refine blk_drew ?_ | refine blk_alloc ?_ _)); exact BK363.out) hb); have n1_ := Aside0.mk (blk_below (g := gb368) (o := .cells #[.int .i64 t365, .int .i64 t366] 47 (0, 0)) (by (with_reducible repeat (first | refine blk_drewN ?_ _ | refine blk_drew ?_ | refine blk_alloc ?_ _)); exact BK368.out) hb); have n2_ := Aside0.mk (below_step (by repeat (first | (with_reducible first | exact HB.out | apply below_alloc | apply pw_below_drewN | apply below_drew1 | refine below_set ?_ GE363.out | refine below_set ?_ GE368.out) | exact HB.out)) hb); have n3_ := Aside0.mk (hbox); have n4_ := Aside0.mk ((by rw [hg]; exact (below_size (by repeat (first | (with_reducible first | exact HB.out | apply below_alloc | apply pw_below_drewN | apply below_drew1 | refine below_set ?_ GE363.out | refine below_set ?_ GE368.out) | exact HB.out))) : w.heap.size ≤ gb373)); have n5_ := Aside0.mk ((by rw [hg]; exact (below_size (by repeat (first | (with_reducible first | exact HB.out | apply below_alloc | apply pw_below_drewN | apply below_drew1 | refine below_set ?_ GE363.out | refine below_set ?_ GE368.out) | exact HB.out))) : w.heap.size ≤ gb373)); have n6_ := Aside0.mk ((by rw [hg]; exact Nat.ne_of_lt (blk_lt (g := gb363) (o := .cells #[.slice none 0 0, .slice none 0 0, .slice none 0 0, .int .i64 a0, .int .i64 0] 55 (0, 0)) (by (with_reducible repeat (first | refine blk_drewN ?_ _ | refine blk_drew ?_ | refine blk_alloc ?_ _)); exact BK363.out)) : gb363 ≠ gb373)); have n7_ := Aside0.mk ((by rw [hg]; exact Nat.ne_of_gt (blk_lt (g := gb363) (o := .cells #[.slice none 0 0, .slice none 0 0, .slice none 0 0, .int .i64 a0, .int .i64 0] 55 (0, 0)) (by (with_reducible repeat (first | refine blk_drewN ?_ _ | refine blk_drew ?_ | refine blk_alloc ?_ _)); exact BK363.out)) : gb373 ≠ gb363)); have n8_ := Aside0.mk ((by rw [hg]; exact Nat.ne_of_lt (blk_lt (g := gb368) (o := .cells #[.int .i64 t365, .int .i64 t366] 47 (0, 0)) (by (with_reducible repeat (first | refine blk_drewN ?_ _ | refine blk_drew ?_ | refine blk_alloc ?_ _)); exact BK368.out)) : gb368 ≠ gb373)); have n9_ := Aside0.mk ((by rw [hg]; exact Nat.ne_of_gt (blk_lt (g := gb368) (o := .cells #[.int .i64 t365, .int .i64 t366] 47 (0, 0)) (by (with_reducible repeat (first | refine blk_drewN ?_ _ | refine blk_drew ?_ | refine blk_alloc ?_ _)); exact BK368.out)) : gb373 ≠ gb368)); clear BK363; clear BK368; clear HB; have BK363 := n0_; have BK368 := n1_; have HB := n2_; have BK373 := n3_; have GW373 := n4_; have GE373 := n5_; have NB363_373 := n6_; have NB373_363 := n7_; have NB368_373 := n8_; have NB373_368 := n9_; clear n0_ n1_ n2_ n3_ n4_ n5_ n6_ n7_ n8_ n9_; clear hb hbox hg; have hnb31 := NB373_363.out; have hnc31 := NB363_373.out; have hnb32 := NB373_368.out; have hnc32 := NB368_373.out; have hcz33_0 : w30.cell? ⟨gb373, 0, none⟩ = some (.int .i64 0) := (blk_cell BK373.out 0).trans rfl; have hcz33_1 : w30.cell? ⟨gb373, 1, none⟩ = some (.int .i64 0) := (blk_cell BK373.out 1).trans rfl; have hfz33_0 := blk_frozen BK373.out 0; have hfz33_1 := blk_frozen BK373.out 1; have hcz34_0 : w30.cell? ⟨gb363, 0, none⟩ = some (.slice none 0 0) := (blk_cell BK363.out 0).trans rfl; have hcz34_1 : w30.cell? ⟨gb363, 1, none⟩ = some (.slice none 0 0) := (blk_cell BK363.out 1).trans rfl; have hcz34_2 : w30.cell? ⟨gb363, 2, none⟩ = some (.slice none 0 0) := (blk_cell BK363.out 2).trans rfl; have hcz34_3 : w30.cell? ⟨gb363, 3, none⟩ = some (.int .i64 a0) := (blk_cell BK363.out 3).trans rfl; have hcz34_4 : w30.cell? ⟨gb363, 4, none⟩ = some (.int .i64 0) := (blk_cell BK363.out 4).trans rfl; have hfz34_0 := blk_frozen BK363.out 0; have hfz34_1 := blk_frozen BK363.out 1; have hfz34_2 := blk_frozen BK363.out 2; have hfz34_3 := blk_frozen BK363.out 3; have hfz34_4 := blk_frozen BK363.out 4) | ((with_reducible refine gate_callee (f := 25) rfl ?_); refine goesL_ (some 80) rfl rfl Try.func25 (by kernel_rfl) rfl #[.agg #[.slice none 0 0, .slice none 0 0, .slice none 0 0, .int .i64 a0, .int .i64 0], .agg #[.int .i64 0, .int .i64 0], .int .i64 (wrap64 (a2 + 1)), .int .i64 a1, .bool (x49_2 == 1)] rfl (by (try simp only [List.map_toArray, List.map_cons, List.map_nil]); first | done | rfl | (simp only [List.length_drop, List.length_take]; rfl)) ?_; (refine (hold_Step.calls k2 _ _ ([] : List (List (S30))) _ _ ([] : List (S130)) _ _ ([] : List (S132)) a0 0 0 0 (wrap64 (a2 + 1)) a1 (x49_2 == 1) t374 t375 t376 t377 _ ?side1 ?side2 ?side3 ?side4 ?side5 ?side6 A20.out).mono ?_); (case side1 => exact Kd.C_nil _ _); (case side2 => exact Nat.le_refl _); (case side3 => exact Kd.C_nil _ _); (case side4 => exact Nat.le_refl _); (case side5 => exact Kd.C_nil _ _); (case side6 => exact Nat.le_refl _); rintro e w35 ⟨rfl, hb⟩; refine ⟨_, rfl, ?_⟩; have n0_ := Aside0.mk (blk_below (g := gb363) (o := .cells #[.slice none 0 0, .slice none 0 0, .slice none 0 0, .int .i64 a0, .int .i64 0] 55 (0, 0)) (by (with_reducible repeat (first | refine blk_drewN ?_ _ | refine blk_drew ?_ | refine blk_alloc ?_ _)); refine blk_far ?_ NB363_373.out _; (with_reducible repeat (first | refine blk_drewN ?_ _ | refine blk_drew ?_ | refine blk_alloc ?_ _)); refine blk_far ?_ NB363_373.out _; (with_reducible repeat (first | refine blk_drewN ?_ _ | refine blk_drew ?_ | refine blk_alloc ?_ _)); exact BK363.out) hb); have n1_ := Aside0.mk (blk_below (g := gb368) (o := .cells #[.int .i64 t365, .int .i64 t366] 47 (0, 0)) (by (with_reducible repeat (first | refine blk_drewN ?_ _ | refine blk_drew ?_ | refine blk_alloc ?_ _)); refine blk_far ?_ NB368_373.out _; (with_reducible repeat (first | refine blk_drewN ?_ _ | refine blk_drew ?_ | refine blk_alloc ?_ _)); refine blk_far ?_ NB368_373.out _; (with_reducible repeat (first | refine blk_drewN ?_ _ | refine blk_drew ?_ | refine blk_alloc ?_ _)); exact BK368.out) hb); have n2_ := Aside0.mk (blk_below (g := gb373) (o := .cells #[.int .i64 t370, .int .i64 t371] 47 (0, 0)) (by (with_reducible repeat (first | refine blk_drewN ?_ _ | refine blk_drew ?_ | refine blk_alloc ?_ _)); refine blk_put (cs := #[.int .i64 t370, .int .i64 0]) ?_ 1 _ rfl; (with_reducible repeat (first | refine blk_drewN ?_ _ | refine blk_drew ?_ | refine blk_alloc ?_ _)); refine blk_put (cs := #[.int .i64 0, .int .i64 0]) ?_ 0 _ rfl; (with_reducible repeat (first | refine blk_drewN ?_ _ | refine blk_drew ?_ | refine blk_alloc ?_ _)); exact BK373.out) hb); have n3_ := Aside0.mk (below_step (by repeat (first | (with_reducible first | exact HB.out | apply below_alloc | apply pw_below_drewN | apply below_drew1 | refine below_set ?_ GE363.out | refine below_set ?_ GE368.out | refine below_set ?_ GE373.out) | exact HB.out)) hb); clear BK363; clear BK368; clear BK373; clear HB; have BK363 := n0_; have BK368 := n1_; have BK373 := n2_; have HB := n3_; clear n0_ n1_ n2_ n3_; (try clear hb); (try clear hb2); (try clear hk); (try clear hi)) | ((with_reducible refine gate_dst (N := 17) rfl ?_); refine box_event ?hg (N := 17) ?hd (cs := #[.int .i64 0, .int .i64 0]) (t := 47) ?hr ?_; (case hd => rfl); (case hg => rfl); (case hr => first | (go_simp; done) | (go_simp; rfl)); intro gb378 hg w36 hbox hb; have n0_ := Aside0.mk (blk_below (g := gb363) (o := .cells #[.slice none 0 0, .slice none 0 0, .slice none 0 0, .int .i64 a0, .int .i64 0] 55 (0, 0)) (by (with_reducible repeat (first | refine blk_drewN ?_ _ | refine blk_drew ?_ | refine blk_alloc ?_ _)); exact BK363.out) hb); have n1_ := Aside0.mk (blk_below (g := gb368) (o := .cells #[.int .i64 t365, .int .i64 t366] 47 (0, 0)) (by (with_reducible repeat (first | refine blk_drewN ?_ _ | refine blk_drew ?_ | refine blk_alloc ?_ _)); exact BK368.out) hb); have n2_ := Aside0.mk (blk_below (g := gb373) (o := .cells #[.int .i64 t370, .int .i64 t371] 47 (0, 0)) (by (with_reducible repeat (first | refine blk_drewN ?_ _ | refine blk_drew ?_ | refine blk_alloc ?_ _)); exact BK373.out) hb); have n3_ := Aside0.mk (below_step (by repeat (first | (with_reducible first | exact HB.out | apply below_alloc | apply pw_below_drewN | apply below_drew1 | refine below_set ?_ GE363.out | refine below_set ?_ GE368.out | refine below_set ?_ GE373.out) | exact HB.out)) hb); have n4_ := Aside0.mk (hbox); have n5_ := Aside0.mk ((by rw [hg]; exact (below_size (by repeat (first | (with_reducible first | exact HB.out | apply below_alloc | apply pw_below_drewN | apply below_drew1 | refine below_set ?_ GE363.out | refine below_set ?_ GE368.out | refine below_set ?_ GE373.out) | exact HB.out))) : w.heap.size ≤ gb378)); have n6_ := Aside0.mk ((by rw [hg]; exact (below_size (by repeat (first | (with_reducible first | exact HB.out | apply below_alloc | apply pw_below_drewN | apply below_drew1 | refine below_set ?_ GE363.out | refine below_set ?_ GE368.out | refine below_set ?_ GE373.out) | exact HB.out))) : w.heap.size ≤ gb378)); have n7_ := Aside0.mk ((by rw [hg]; exact Nat.ne_of_lt (blk_lt (g := gb363) (o := .cells #[.slice none 0 0, .slice none 0 0, .slice none 0 0, .int .i64 a0, .int .i64 0] 55 (0, 0)) (by (with_reducible repeat (first | refine blk_drewN ?_ _ | refine blk_drew ?_ | refine blk_alloc ?_ _)); exact BK363.out)) : gb363 ≠ gb378)); have n8_ := Aside0.mk ((by rw [hg]; exact Nat.ne_of_gt (blk_lt (g := gb363) (o := .cells #[.slice none 0 0, .slice none 0 0, .slice none 0 0, .int .i64 a0, .int .i64 0] 55 (0, 0)) (by (with_reducible repeat (first | refine blk_drewN ?_ _ | refine blk_drew ?_ | refine blk_alloc ?_ _)); exact BK363.out)) : gb378 ≠ gb363)); have n9_ := Aside0.mk ((by rw [hg]; exact Nat.ne_of_lt (blk_lt (g := gb368) (o := .cells #[.int .i64 t365, .int .i64 t366] 47 (0, 0)) (by (with_reducible repeat (first | refine blk_drewN ?_ _ | refine blk_drew ?_ | refine blk_alloc ?_ _)); exact BK368.out)) : gb368 ≠ gb378)); have n10_ := Aside0.mk ((by rw [hg]; exact Nat.ne_of_gt (blk_lt (g := gb368) (o := .cells #[.int .i64 t365, .int .i64 t366] 47 (0, 0)) (by (with_reducible repeat (first | refine blk_drewN ?_ _ | refine blk_drew ?_ | refine blk_alloc ?_ _)); exact BK368.out)) : gb378 ≠ gb368)); have n11_ := Aside0.mk ((by rw [hg]; exact Nat.ne_of_lt (blk_lt (g := gb373) (o := .cells #[.int .i64 t370, .int .i64 t371] 47 (0, 0)) (by (with_reducible repeat (first | refine blk_drewN ?_ _ | refine blk_drew ?_ | refine blk_alloc ?_ _)); exact BK373.out)) : gb373 ≠ gb378)); have n12_ := Aside0.mk ((by rw [hg]; exact Nat.ne_of_gt (blk_lt (g := gb373) (o := .cells #[.int .i64 t370, .int .i64 t371] 47 (0, 0)) (by (with_reducible repeat (first | refine blk_drewN ?_ _ | refine blk_drew ?_ | refine blk_alloc ?_ _)); exact BK373.out)) : gb378 ≠ gb373)); clear BK363; clear BK368; clear BK373; clear HB; have BK363 := n0_; have BK368 := n1_; have BK373 := n2_; have HB := n3_; have BK378 := n4_; have GW378 := n5_; have GE378 := n6_; have NB363_378 := n7_; have NB378_363 := n8_; have NB368_378 := n9_; have NB378_368 := n10_; have NB373_378 := n11_; have NB378_373 := n12_; clear n0_ n1_ n2_ n3_ n4_ n5_ n6_ n7_ n8_ n9_ n10_ n11_ n12_; clear hb hbox hg; have hnb37 := NB378_363.out; have hnc37 := NB363_378.out; have hnb38 := NB378_368.out; have hnc38 := NB368_378.out; have hnb39 := NB378_373.out; have hnc39 := NB373_378.out; have hcz40_0 : w36.cell? ⟨gb378, 0, none⟩ = some (.int .i64 0) := (blk_cell BK378.out 0).trans rfl; have hcz40_1 : w36.cell? ⟨gb378, 1, none⟩ = some (.int .i64 0) := (blk_cell BK378.out 1).trans rfl; have hfz40_0 := blk_frozen BK378.out 0; have hfz40_1 := blk_frozen BK378.out 1; have hcz41_0 : w36.cell? ⟨gb363, 0, none⟩ = some (.slice none 0 0) := (blk_cell BK363.out 0).trans rfl; have hcz41_1 : w36.cell? ⟨gb363, 1, none⟩ = some (.slice none 0 0) := (blk_cell BK363.out 1).trans rfl; have hcz41_2 : w36.cell? ⟨gb363, 2, none⟩ = some (.slice none 0 0) := (blk_cell BK363.out 2).trans rfl; have hcz41_3 : w36.cell? ⟨gb363, 3, none⟩ = some (.int .i64 a0) := (blk_cell BK363.out 3).trans rfl; have hcz41_4 : w36.cell? ⟨gb363, 4, none⟩ = some (.int .i64 0) := (blk_cell BK363.out 4).trans rfl; have hfz41_0 := blk_frozen BK363.out 0; have hfz41_1 := blk_frozen BK363.out 1; have hfz41_2 := blk_frozen BK363.out 2; have hfz41_3 := blk_frozen BK363.out 3; have hfz41_4 := blk_frozen BK363.out 4) | ((with_reducible refine gate_callee (f := 25) rfl ?_); refine goesL_ (some 92) rfl rfl Try.func25 (by kernel_rfl) rfl #[.agg #[.slice none 0 0, .slice none 0 0, .slice none 0 0, .int .i64 a0, .int .i64 0], .agg #[.int .i64 0, .int .i64 0], .int .i64 (wrap64 (a2 + 1)), .int .i64 (wrap64 (a1 + 1)), .bool (x49_2 == 1)] rfl (by (try simp only [List.map_toArray, List.map_cons, List.map_nil]); first | done | rfl | (simp only [List.length_drop, List.length_take]; rfl)) ?_; (refine (hold_Step.calls k2 _ _ ([] : List (List (S30))) _ _ ([] : List (S130)) _ _ ([] : List (S132)) a0 0 0 0 (wrap64 (a2 + 1)) (wrap64 (a1 + 1)) (x49_2 == 1) t379 t380 t381 t382 _ ?side1 ?side2 ?side3 ?side4 ?side5 ?side6 A21.out).mono ?_); (case side1 => exact Kd.C_nil _ _); (case side2 => exact Nat.le_refl _); (case side3 => exact Kd.C_nil _ _); (case side4 => exact Nat.le_refl _); (case side5 => exact Kd.C_nil _ _); (case side6 => exact Nat.le_refl _); rintro e w42 ⟨rfl, hb⟩; refine ⟨_, rfl, ?_⟩; have n0_ := Aside0.mk (blk_below (g := gb363) (o := .cells #[.slice none 0 0, .slice none 0 0, .slice none 0 0, .int .i64 a0, .int .i64 0] 55 (0, 0)) (by (with_reducible repeat (first | refine blk_drewN ?_ _ | refine blk_drew ?_ | refine blk_alloc ?_ _)); refine blk_far ?_ NB363_378.out _; (with_reducible repeat (first | refine blk_drewN ?_ _ | refine blk_drew ?_ | refine blk_alloc ?_ _)); refine blk_far ?_ NB363_378.out _; (with_reducible repeat (first | refine blk_drewN ?_ _ | refine blk_drew ?_ | refine blk_alloc ?_ _)); exact BK363.out) hb); have n1_ := Aside0.mk (blk_below (g := gb368) (o := .cells #[.int .i64 t365, .int .i64 t366] 47 (0, 0)) (by (with_reducible repeat (first | refine blk_drewN ?_ _ | refine blk_drew ?_ | refine blk_alloc ?_ _)); refine blk_far ?_ NB368_378.out _; (with_reducible repeat (first | refine blk_drewN ?_ _ | refine blk_drew ?_ | refine blk_alloc ?_ _)); refine blk_far ?_ NB368_378.out _; (with_reducible repeat (first | refine blk_drewN ?_ _ | refine blk_drew ?_ | refine blk_alloc ?_ _)); exact BK368.out) hb); have n2_ := Aside0.mk (blk_below (g := gb373) (o := .cells #[.int .i64 t370, .int .i64 t371] 47 (0, 0)) (by (with_reducible repeat (first | refine blk_drewN ?_ _ | refine blk_drew ?_ | refine blk_alloc ?_ _)); refine blk_far ?_ NB373_378.out _; (with_reducible repeat (first | refine blk_drewN ?_ _ | refine blk_drew ?_ | refine blk_alloc ?_ _)); refine blk_far ?_ NB373_378.out _; (with_reducible repeat (first | refine blk_drewN ?_ _ | refine blk_drew ?_ | refine blk_alloc ?_ _)); exact BK373.out) hb); have n3_ := Aside0.mk (blk_below (g := gb378) (o := .cells #[.int .i64 t375, .int .i64 t376] 47 (0, 0)) (by (with_reducible repeat (first | refine blk_drewN ?_ _ | refine blk_drew ?_ | refine blk_alloc ?_ _)); refine blk_put (cs := #[.int .i64 t375, .int .i64 0]) ?_ 1 _ rfl; (with_reducible repeat (first | refine blk_drewN ?_ _ | refine blk_drew ?_ | refine blk_alloc ?_ _)); refine blk_put (cs := #[.int .i64 0, .int .i64 0]) ?_ 0 _ rfl; (with_reducible repeat (first | refine blk_drewN ?_ _ | refine blk_drew ?_ | refine blk_alloc ?_ _)); exact BK378.out) hb); have n4_ := Aside0.mk (below_step (by repeat (first | (with_reducible first | exact HB.out | apply below_alloc | apply pw_below_drewN | apply below_drew1 | refine below_set ?_ GE363.out | refine below_set ?_ GE368.out | refine below_set ?_ GE373.out | refine below_set ?_ GE378.out) | exact HB.out)) hb); clear BK363; clear BK368; clear BK373; clear BK378; clear HB; have BK363 := n0_; have BK368 := n1_; have BK373 := n2_; have BK378 := n3_; have HB := n4_; clear n0_ n1_ n2_ n3_ n4_; (try clear hb); (try clear hb2); (try clear hk); (try clear hi)) | ((with_reducible refine gate_dst (N := 20) rfl ?_); refine box_event ?hg (N := 20) ?hd (cs := #[.int .i64 0, .int .i64 0]) (t := 47) ?hr ?_; (case hd => rfl); (case hg => rfl); (case hr => first | (go_simp; done) | (go_simp; rfl)); intro gb383 hg w43 hbox hb; have n0_ := Aside0.mk (blk_below (g := gb363) (o := .cells #[.slice none 0 0, .slice none 0 0, .slice none 0 0, .int .i64 a0, .int .i64 0] 55 (0, 0)) (by (with_reducible repeat (first | refine blk_drewN ?_ _ | refine blk_drew ?_ | refine blk_alloc ?_ _)); exact BK363.out) hb); have n1_ := Aside0.mk (blk_below (g := gb368) (o := .cells #[.int .i64 t365, .int .i64 t366] 47 (0, 0)) (by (with_reducible repeat (first | refine blk_drewN ?_ _ | refine blk_drew ?_ | refine blk_alloc ?_ _)); exact BK368.out) hb); have n2_ := Aside0.mk (blk_below (g := gb373) (o := .cells #[.int .i64 t370, .int .i64 t371] 47 (0, 0)) (by (with_reducible repeat (first | refine blk_drewN ?_ _ | refine blk_drew ?_ | refine blk_alloc ?_ _)); exact BK373.out) hb); have n3_ := Aside0.mk (blk_below (g := gb378) (o := .cells #[.int .i64 t375, .int .i64 t376] 47 (0, 0)) (by (with_reducible repeat (first | refine blk_drewN ?_ _ | refine blk_drew ?_ | refine blk_alloc ?_ _)); exact BK378.out) hb); have n4_ := Aside0.mk (below_step (by repeat (first | (with_reducible first | exact HB.out | apply below_alloc | apply pw_below_drewN | apply below_drew1 | refine below_set ?_ GE363.out | refine below_set ?_ GE368.out | refine below_set ?_ GE373.out | refine below_set ?_ GE378.out) | exact HB.out)) hb); have n5_ := Aside0.mk (hbox); have n6_ := Aside0.mk ((by rw [hg]; exact (below_size (by repeat (first | (with_reducible first | exact HB.out | apply below_alloc | apply pw_below_drewN | apply below_drew1 | refine below_set ?_ GE363.out | refine below_set ?_ GE368.out | refine below_set ?_ GE373.out | refine below_set ?_ GE378.out) | exact HB.out))) : w.heap.size ≤ gb383)); have n7_ := Aside0.mk ((by rw [hg]; exact (below_size (by repeat (first | (with_reducible first | exact HB.out | apply below_alloc | apply pw_below_drewN | apply below_drew1 | refine below_set ?_ GE363.out | refine below_set ?_ GE368.out | refine below_set ?_ GE373.out | refine below_set ?_ GE378.out) | exact HB.out))) : w.heap.size ≤ gb383)); have n8_ := Aside0.mk ((by rw [hg]; exact Nat.ne_of_lt (blk_lt (g := gb363) (o := .cells #[.slice none 0 0, .slice none 0 0, .slice none 0 0, .int .i64 a0, .int .i64 0] 55 (0, 0)) (by (with_reducible repeat (first | refine blk_drewN ?_ _ | refine blk_drew ?_ | refine blk_alloc ?_ _)); exact BK363.out)) : gb363 ≠ gb383)); have n9_ := Aside0.mk ((by rw [hg]; exact Nat.ne_of_gt (blk_lt (g := gb363) (o := .cells #[.slice none 0 0, .slice none 0 0, .slice none 0 0, .int .i64 a0, .int .i64 0] 55 (0, 0)) (by (with_reducible repeat (first | refine blk_drewN ?_ _ | refine blk_drew ?_ | refine blk_alloc ?_ _)); exact BK363.out)) : gb383 ≠ gb363)); have n10_ := Aside0.mk ((by rw [hg]; exact Nat.ne_of_lt (blk_lt (g := gb368) (o := .cells #[.int .i64 t365, .int .i64 t366] 47 (0, 0)) (by (with_reducible repeat (first | refine blk_drewN ?_ _ | refine blk_drew ?_ | refine blk_alloc ?_ _)); exact BK368.out)) : gb368 ≠ gb383)); have n11_ := Aside0.mk ((by rw [hg]; exact Nat.ne_of_gt (blk_lt (g := gb368) (o := .cells #[.int .i64 t365, .int .i64 t366] 47 (0, 0)) (by (with_reducible repeat (first | refine blk_drewN ?_ _ | refine blk_drew ?_ | refine blk_alloc ?_ _)); exact BK368.out)) : gb383 ≠ gb368)); have n12_ := Aside0.mk ((by rw [hg]; exact Nat.ne_of_lt (blk_lt (g := gb373) (o := .cells #[.int .i64 t370, .int .i64 t371] 47 (0, 0)) (by (with_reducible repeat (first | refine blk_drewN ?_ _ | refine blk_drew ?_ | refine blk_alloc ?_ _)); exact BK373.out)) : gb373 ≠ gb383)); have n13_ := Aside0.mk ((by rw [hg]; exact Nat.ne_of_gt (blk_lt (g := gb373) (o := .cells #[.int .i64 t370, .int .i64 t371] 47 (0, 0)) (by (with_reducible repeat (first | refine blk_drewN ?_ _ | refine blk_drew ?_ | refine blk_alloc ?_ _)); exact BK373.out)) : gb383 ≠ gb373)); have n14_ := Aside0.mk ((by rw [hg]; exact Nat.ne_of_lt (blk_lt (g := gb378) (o := .cells #[.int .i64 t375, .int .i64 t376] 47 (0, 0)) (by (with_reducible repeat (first | refine blk_drewN ?_ _ | refine blk_drew ?_ | refine blk_alloc ?_ _)); exact BK378.out)) : gb378 ≠ gb383)); have n15_ := Aside0.mk ((by rw [hg]; exact Nat.ne_of_gt (blk_lt (g := gb378) (o := .cells #[.int .i64 t375, .int .i64 t376] 47 (0, 0)) (by (with_reducible repeat (first | refine blk_drewN ?_ _ | refine blk_drew ?_ | refine blk_alloc ?_ _)); exact BK378.out)) : gb383 ≠ gb378)); clear BK363; clear BK368; clear BK373; clear BK378; clear HB; have BK363 := n0_; have BK368 := n1_; have BK373 := n2_; have BK378 := n3_; have HB := n4_; have BK383 := n5_; have GW383 := n6_; have GE383 := n7_; have NB363_383 := n8_; have NB383_363 := n9_; have NB368_383 := n10_; have NB383_368 := n11_; have NB373_383 := n12_; have NB383_373 := n13_; have NB378_383 := n14_; have NB383_378 := n15_; clear n0_ n1_ n2_ n3_ n4_ n5_ n6_ n7_ n8_ n9_ n10_ n11_ n12_ n13_ n14_ n15_; clear hb hbox hg; have hnb44 := NB383_363.out; have hnc44 := NB363_383.out; have hnb45 := NB383_368.out; have hnc45 := NB368_383.out; have hnb46 := NB383_373.out; have hnc46 := NB373_383.out; have hnb47 := NB383_378.out; have hnc47 := NB378_383.out; have hcz48_0 : w43.cell? ⟨gb383, 0, none⟩ = some (.int .i64 0) := (blk_cell BK383.out 0).trans rfl; have hcz48_1 : w43.cell? ⟨gb383, 1, none⟩ = some (.int .i64 0) := (blk_cell BK383.out 1).trans rfl; have hfz48_0 := blk_frozen BK383.out 0; have hfz48_1 := blk_frozen BK383.out 1))
                  (try simp only [Act.put, List.setIfInBounds_toArray, List.set_cons_zero, List.set_cons_succ])
                  go_cut [145] (fun v145 wc => ∃ (kq : Nat) (x145_21 : Bool), v145 = .bool x145_21 ∧ Aside0 (stipendlaw14_HoldRises.j2 kq a1 a2 x49_2 x145_21 a0 0 = some r) ∧ Aside0 (kq ≤ k2) ∧ Aside0 (wc.heap[gb363]? = some (.cells #[(.slice none 0 0), (.slice none 0 0), (.slice none 0 0), .int .i64 a0, .int .i64 0] 55 (0, 0))) ∧ Aside0 (wc.heap[gb368]? = some (.cells #[.int .i64 t365, .int .i64 t366] 47 (0, 0))) ∧ Aside0 (wc.heap[gb373]? = some (.cells #[.int .i64 t370, .int .i64 t371] 47 (0, 0))) ∧ Aside0 (wc.heap[gb378]? = some (.cells #[.int .i64 t375, .int .i64 t376] 47 (0, 0))) ∧ Aside0 (wc.heap[gb383]? = some (.cells #[.int .i64 t380, .int .i64 t381] 47 (0, 0))) ∧ Aside0 (Below w.heap.size w wc))
                  case first => as_aux_lemma =>
                    have H := HC22.out
                    clear HC22
                    by_cases c49 : (wrap64 ((wrap64 ((wrap64 (t367 + t372)) + t377)) + t382)) = 0
                    · rw [if_pos c49] at H
                      have c49b0 : ((wrap64 ((wrap64 ((wrap64 (t367 + t372)) + t377)) + t382)) == 0) = true := beq_iff_eq.mpr c49
                      have c49b1 : ((wrap64 ((wrap64 ((wrap64 (t367 + t372)) + t377)) + t382)) != 0) = false := bne_eq_false_iff_eq.mpr c49
                      clear c49
                      (first | rw [c49b0] | (simp only [i64_w, i32_w]; rw [c49b0]) | skip)
                      by_cases c50 : t364 > t369
                      · rw [if_pos c50] at H
                        have c50b0 : decide (t369 < t364) = true := decide_eq_true c50
                        clear c50
                        have H' := Aside0.mk H
                        clear H
                        go_wp2
                        go_meet
                        case rel => exact ⟨_, (true), (by first | rfl | (simp; done) | (simp [*]; done)), H', ⟨by have := HJ5.out; have := HK2.out; first | omega | exact Nat.le_refl _⟩, ⟨by (with_reducible repeat (first | refine blk_drewN ?_ _ | refine blk_drew ?_ | refine blk_alloc ?_ _)); refine blk_far ?_ NB363_383.out _; (with_reducible repeat (first | refine blk_drewN ?_ _ | refine blk_drew ?_ | refine blk_alloc ?_ _)); refine blk_far ?_ NB363_383.out _; (with_reducible repeat (first | refine blk_drewN ?_ _ | refine blk_drew ?_ | refine blk_alloc ?_ _)); exact BK363.out⟩, ⟨by (with_reducible repeat (first | refine blk_drewN ?_ _ | refine blk_drew ?_ | refine blk_alloc ?_ _)); refine blk_far ?_ NB368_383.out _; (with_reducible repeat (first | refine blk_drewN ?_ _ | refine blk_drew ?_ | refine blk_alloc ?_ _)); refine blk_far ?_ NB368_383.out _; (with_reducible repeat (first | refine blk_drewN ?_ _ | refine blk_drew ?_ | refine blk_alloc ?_ _)); exact BK368.out⟩, ⟨by (with_reducible repeat (first | refine blk_drewN ?_ _ | refine blk_drew ?_ | refine blk_alloc ?_ _)); refine blk_far ?_ NB373_383.out _; (with_reducible repeat (first | refine blk_drewN ?_ _ | refine blk_drew ?_ | refine blk_alloc ?_ _)); refine blk_far ?_ NB373_383.out _; (with_reducible repeat (first | refine blk_drewN ?_ _ | refine blk_drew ?_ | refine blk_alloc ?_ _)); exact BK373.out⟩, ⟨by (with_reducible repeat (first | refine blk_drewN ?_ _ | refine blk_drew ?_ | refine blk_alloc ?_ _)); refine blk_far ?_ NB378_383.out _; (with_reducible repeat (first | refine blk_drewN ?_ _ | refine blk_drew ?_ | refine blk_alloc ?_ _)); refine blk_far ?_ NB378_383.out _; (with_reducible repeat (first | refine blk_drewN ?_ _ | refine blk_drew ?_ | refine blk_alloc ?_ _)); exact BK378.out⟩, ⟨by (with_reducible repeat (first | refine blk_drewN ?_ _ | refine blk_drew ?_ | refine blk_alloc ?_ _)); refine blk_put (cs := #[.int .i64 t380, .int .i64 0]) ?_ 1 _ rfl; (with_reducible repeat (first | refine blk_drewN ?_ _ | refine blk_drew ?_ | refine blk_alloc ?_ _)); refine blk_put (cs := #[.int .i64 0, .int .i64 0]) ?_ 0 _ rfl; (with_reducible repeat (first | refine blk_drewN ?_ _ | refine blk_drew ?_ | refine blk_alloc ?_ _)); exact BK383.out⟩, ⟨by repeat (first | (with_reducible first | exact HB.out | apply below_alloc | apply pw_below_drewN | apply below_drew1 | refine below_set ?_ GE363.out | refine below_set ?_ GE368.out | refine below_set ?_ GE373.out | refine below_set ?_ GE378.out | refine below_set ?_ GE383.out) | exact HB.out)⟩⟩
                      · rw [if_neg c50] at H
                        have c50b0 : decide (t369 < t364) = false := decide_eq_false c50
                        clear c50
                        by_cases c51 : t364 > t374
                        · rw [if_pos c51] at H
                          have c51b0 : decide (t374 < t364) = true := decide_eq_true c51
                          clear c51
                          have H' := Aside0.mk H
                          clear H
                          go_wp2
                          go_meet
                          case rel => exact ⟨_, (true), (by first | rfl | (simp; done) | (simp [*]; done)), H', ⟨by have := HJ5.out; have := HK2.out; first | omega | exact Nat.le_refl _⟩, ⟨by (with_reducible repeat (first | refine blk_drewN ?_ _ | refine blk_drew ?_ | refine blk_alloc ?_ _)); refine blk_far ?_ NB363_383.out _; (with_reducible repeat (first | refine blk_drewN ?_ _ | refine blk_drew ?_ | refine blk_alloc ?_ _)); refine blk_far ?_ NB363_383.out _; (with_reducible repeat (first | refine blk_drewN ?_ _ | refine blk_drew ?_ | refine blk_alloc ?_ _)); exact BK363.out⟩, ⟨by (with_reducible repeat (first | refine blk_drewN ?_ _ | refine blk_drew ?_ | refine blk_alloc ?_ _)); refine blk_far ?_ NB368_383.out _; (with_reducible repeat (first | refine blk_drewN ?_ _ | refine blk_drew ?_ | refine blk_alloc ?_ _)); refine blk_far ?_ NB368_383.out _; (with_reducible repeat (first | refine blk_drewN ?_ _ | refine blk_drew ?_ | refine blk_alloc ?_ _)); exact BK368.out⟩, ⟨by (with_reducible repeat (first | refine blk_drewN ?_ _ | refine blk_drew ?_ | refine blk_alloc ?_ _)); refine blk_far ?_ NB373_383.out _; (with_reducible repeat (first | refine blk_drewN ?_ _ | refine blk_drew ?_ | refine blk_alloc ?_ _)); refine blk_far ?_ NB373_383.out _; (with_reducible repeat (first | refine blk_drewN ?_ _ | refine blk_drew ?_ | refine blk_alloc ?_ _)); exact BK373.out⟩, ⟨by (with_reducible repeat (first | refine blk_drewN ?_ _ | refine blk_drew ?_ | refine blk_alloc ?_ _)); refine blk_far ?_ NB378_383.out _; (with_reducible repeat (first | refine blk_drewN ?_ _ | refine blk_drew ?_ | refine blk_alloc ?_ _)); refine blk_far ?_ NB378_383.out _; (with_reducible repeat (first | refine blk_drewN ?_ _ | refine blk_drew ?_ | refine blk_alloc ?_ _)); exact BK378.out⟩, ⟨by (with_reducible repeat (first | refine blk_drewN ?_ _ | refine blk_drew ?_ | refine blk_alloc ?_ _)); refine blk_put (cs := #[.int .i64 t380, .int .i64 0]) ?_ 1 _ rfl; (with_reducible repeat (first | refine blk_drewN ?_ _ | refine blk_drew ?_ | refine blk_alloc ?_ _)); refine blk_put (cs := #[.int .i64 0, .int .i64 0]) ?_ 0 _ rfl; (with_reducible repeat (first | refine blk_drewN ?_ _ | refine blk_drew ?_ | refine blk_alloc ?_ _)); exact BK383.out⟩, ⟨by repeat (first | (with_reducible first | exact HB.out | apply below_alloc | apply pw_below_drewN | apply below_drew1 | refine below_set ?_ GE363.out | refine below_set ?_ GE368.out | refine below_set ?_ GE373.out | refine below_set ?_ GE378.out | refine below_set ?_ GE383.out) | exact HB.out)⟩⟩
                        · rw [if_neg c51] at H
                          have c51b0 : decide (t374 < t364) = false := decide_eq_false c51
                          clear c51
                          by_cases c52 : t369 > t379
                          · rw [if_pos c52] at H
                            have c52b0 : decide (t379 < t369) = true := decide_eq_true c52
                            clear c52
                            have H' := Aside0.mk H
                            clear H
                            go_wp2
                            go_meet
                            case rel => exact ⟨_, (true), (by first | rfl | (simp; done) | (simp [*]; done)), H', ⟨by have := HJ5.out; have := HK2.out; first | omega | exact Nat.le_refl _⟩, ⟨by (with_reducible repeat (first | refine blk_drewN ?_ _ | refine blk_drew ?_ | refine blk_alloc ?_ _)); refine blk_far ?_ NB363_383.out _; (with_reducible repeat (first | refine blk_drewN ?_ _ | refine blk_drew ?_ | refine blk_alloc ?_ _)); refine blk_far ?_ NB363_383.out _; (with_reducible repeat (first | refine blk_drewN ?_ _ | refine blk_drew ?_ | refine blk_alloc ?_ _)); exact BK363.out⟩, ⟨by (with_reducible repeat (first | refine blk_drewN ?_ _ | refine blk_drew ?_ | refine blk_alloc ?_ _)); refine blk_far ?_ NB368_383.out _; (with_reducible repeat (first | refine blk_drewN ?_ _ | refine blk_drew ?_ | refine blk_alloc ?_ _)); refine blk_far ?_ NB368_383.out _; (with_reducible repeat (first | refine blk_drewN ?_ _ | refine blk_drew ?_ | refine blk_alloc ?_ _)); exact BK368.out⟩, ⟨by (with_reducible repeat (first | refine blk_drewN ?_ _ | refine blk_drew ?_ | refine blk_alloc ?_ _)); refine blk_far ?_ NB373_383.out _; (with_reducible repeat (first | refine blk_drewN ?_ _ | refine blk_drew ?_ | refine blk_alloc ?_ _)); refine blk_far ?_ NB373_383.out _; (with_reducible repeat (first | refine blk_drewN ?_ _ | refine blk_drew ?_ | refine blk_alloc ?_ _)); exact BK373.out⟩, ⟨by (with_reducible repeat (first | refine blk_drewN ?_ _ | refine blk_drew ?_ | refine blk_alloc ?_ _)); refine blk_far ?_ NB378_383.out _; (with_reducible repeat (first | refine blk_drewN ?_ _ | refine blk_drew ?_ | refine blk_alloc ?_ _)); refine blk_far ?_ NB378_383.out _; (with_reducible repeat (first | refine blk_drewN ?_ _ | refine blk_drew ?_ | refine blk_alloc ?_ _)); exact BK378.out⟩, ⟨by (with_reducible repeat (first | refine blk_drewN ?_ _ | refine blk_drew ?_ | refine blk_alloc ?_ _)); refine blk_put (cs := #[.int .i64 t380, .int .i64 0]) ?_ 1 _ rfl; (with_reducible repeat (first | refine blk_drewN ?_ _ | refine blk_drew ?_ | refine blk_alloc ?_ _)); refine blk_put (cs := #[.int .i64 0, .int .i64 0]) ?_ 0 _ rfl; (with_reducible repeat (first | refine blk_drewN ?_ _ | refine blk_drew ?_ | refine blk_alloc ?_ _)); exact BK383.out⟩, ⟨by repeat (first | (with_reducible first | exact HB.out | apply below_alloc | apply pw_below_drewN | apply below_drew1 | refine below_set ?_ GE363.out | refine below_set ?_ GE368.out | refine below_set ?_ GE373.out | refine below_set ?_ GE378.out | refine below_set ?_ GE383.out) | exact HB.out)⟩⟩
                          · rw [if_neg c52] at H
                            have c52b0 : decide (t379 < t369) = false := decide_eq_false c52
                            clear c52
                            by_cases c53 : t374 > t379
                            · rw [if_pos c53] at H
                              have c53b0 : decide (t379 < t374) = true := decide_eq_true c53
                              clear c53
                              have H' := Aside0.mk H
                              clear H
                              go_wp2
                              go_meet
                              case rel => exact ⟨_, (true), (by first | rfl | (simp; done) | (simp [*]; done)), H', ⟨by have := HJ5.out; have := HK2.out; first | omega | exact Nat.le_refl _⟩, ⟨by (with_reducible repeat (first | refine blk_drewN ?_ _ | refine blk_drew ?_ | refine blk_alloc ?_ _)); refine blk_far ?_ NB363_383.out _; (with_reducible repeat (first | refine blk_drewN ?_ _ | refine blk_drew ?_ | refine blk_alloc ?_ _)); refine blk_far ?_ NB363_383.out _; (with_reducible repeat (first | refine blk_drewN ?_ _ | refine blk_drew ?_ | refine blk_alloc ?_ _)); exact BK363.out⟩, ⟨by (with_reducible repeat (first | refine blk_drewN ?_ _ | refine blk_drew ?_ | refine blk_alloc ?_ _)); refine blk_far ?_ NB368_383.out _; (with_reducible repeat (first | refine blk_drewN ?_ _ | refine blk_drew ?_ | refine blk_alloc ?_ _)); refine blk_far ?_ NB368_383.out _; (with_reducible repeat (first | refine blk_drewN ?_ _ | refine blk_drew ?_ | refine blk_alloc ?_ _)); exact BK368.out⟩, ⟨by (with_reducible repeat (first | refine blk_drewN ?_ _ | refine blk_drew ?_ | refine blk_alloc ?_ _)); refine blk_far ?_ NB373_383.out _; (with_reducible repeat (first | refine blk_drewN ?_ _ | refine blk_drew ?_ | refine blk_alloc ?_ _)); refine blk_far ?_ NB373_383.out _; (with_reducible repeat (first | refine blk_drewN ?_ _ | refine blk_drew ?_ | refine blk_alloc ?_ _)); exact BK373.out⟩, ⟨by (with_reducible repeat (first | refine blk_drewN ?_ _ | refine blk_drew ?_ | refine blk_alloc ?_ _)); refine blk_far ?_ NB378_383.out _; (with_reducible repeat (first | refine blk_drewN ?_ _ | refine blk_drew ?_ | refine blk_alloc ?_ _)); refine blk_far ?_ NB378_383.out _; (with_reducible repeat (first | refine blk_drewN ?_ _ | refine blk_drew ?_ | refine blk_alloc ?_ _)); exact BK378.out⟩, ⟨by (with_reducible repeat (first | refine blk_drewN ?_ _ | refine blk_drew ?_ | refine blk_alloc ?_ _)); refine blk_put (cs := #[.int .i64 t380, .int .i64 0]) ?_ 1 _ rfl; (with_reducible repeat (first | refine blk_drewN ?_ _ | refine blk_drew ?_ | refine blk_alloc ?_ _)); refine blk_put (cs := #[.int .i64 0, .int .i64 0]) ?_ 0 _ rfl; (with_reducible repeat (first | refine blk_drewN ?_ _ | refine blk_drew ?_ | refine blk_alloc ?_ _)); exact BK383.out⟩, ⟨by repeat (first | (with_reducible first | exact HB.out | apply below_alloc | apply pw_below_drewN | apply below_drew1 | refine below_set ?_ GE363.out | refine below_set ?_ GE368.out | refine below_set ?_ GE373.out | refine below_set ?_ GE378.out | refine below_set ?_ GE383.out) | exact HB.out)⟩⟩
                            · rw [if_neg c53] at H
                              have c53b0 : decide (t379 < t374) = false := decide_eq_false c53
                              clear c53
                              by_cases c54 : (wrap64 (t379 - t364)) > 1
                              · rw [if_pos c54] at H
                                have c54b0 : decide (1 < (wrap64 (t379 - t364))) = true := decide_eq_true c54
                                clear c54
                                have H' := Aside0.mk H
                                clear H
                                go_wp2
                                go_meet
                                case rel => exact ⟨_, (true), (by first | rfl | (simp; done) | (simp [*]; done)), H', ⟨by have := HJ5.out; have := HK2.out; first | omega | exact Nat.le_refl _⟩, ⟨by (with_reducible repeat (first | refine blk_drewN ?_ _ | refine blk_drew ?_ | refine blk_alloc ?_ _)); refine blk_far ?_ NB363_383.out _; (with_reducible repeat (first | refine blk_drewN ?_ _ | refine blk_drew ?_ | refine blk_alloc ?_ _)); refine blk_far ?_ NB363_383.out _; (with_reducible repeat (first | refine blk_drewN ?_ _ | refine blk_drew ?_ | refine blk_alloc ?_ _)); exact BK363.out⟩, ⟨by (with_reducible repeat (first | refine blk_drewN ?_ _ | refine blk_drew ?_ | refine blk_alloc ?_ _)); refine blk_far ?_ NB368_383.out _; (with_reducible repeat (first | refine blk_drewN ?_ _ | refine blk_drew ?_ | refine blk_alloc ?_ _)); refine blk_far ?_ NB368_383.out _; (with_reducible repeat (first | refine blk_drewN ?_ _ | refine blk_drew ?_ | refine blk_alloc ?_ _)); exact BK368.out⟩, ⟨by (with_reducible repeat (first | refine blk_drewN ?_ _ | refine blk_drew ?_ | refine blk_alloc ?_ _)); refine blk_far ?_ NB373_383.out _; (with_reducible repeat (first | refine blk_drewN ?_ _ | refine blk_drew ?_ | refine blk_alloc ?_ _)); refine blk_far ?_ NB373_383.out _; (with_reducible repeat (first | refine blk_drewN ?_ _ | refine blk_drew ?_ | refine blk_alloc ?_ _)); exact BK373.out⟩, ⟨by (with_reducible repeat (first | refine blk_drewN ?_ _ | refine blk_drew ?_ | refine blk_alloc ?_ _)); refine blk_far ?_ NB378_383.out _; (with_reducible repeat (first | refine blk_drewN ?_ _ | refine blk_drew ?_ | refine blk_alloc ?_ _)); refine blk_far ?_ NB378_383.out _; (with_reducible repeat (first | refine blk_drewN ?_ _ | refine blk_drew ?_ | refine blk_alloc ?_ _)); exact BK378.out⟩, ⟨by (with_reducible repeat (first | refine blk_drewN ?_ _ | refine blk_drew ?_ | refine blk_alloc ?_ _)); refine blk_put (cs := #[.int .i64 t380, .int .i64 0]) ?_ 1 _ rfl; (with_reducible repeat (first | refine blk_drewN ?_ _ | refine blk_drew ?_ | refine blk_alloc ?_ _)); refine blk_put (cs := #[.int .i64 0, .int .i64 0]) ?_ 0 _ rfl; (with_reducible repeat (first | refine blk_drewN ?_ _ | refine blk_drew ?_ | refine blk_alloc ?_ _)); exact BK383.out⟩, ⟨by repeat (first | (with_reducible first | exact HB.out | apply below_alloc | apply pw_below_drewN | apply below_drew1 | refine below_set ?_ GE363.out | refine below_set ?_ GE368.out | refine below_set ?_ GE373.out | refine below_set ?_ GE378.out | refine below_set ?_ GE383.out) | exact HB.out)⟩⟩
                              · rw [if_neg c54] at H
                                have c54b0 : decide (1 < (wrap64 (t379 - t364))) = false := decide_eq_false c54
                                clear c54
                                by_cases c55 : t364 > a1
                                · rw [if_pos c55] at H
                                  have c55b0 : decide (a1 < t364) = true := decide_eq_true c55
                                  clear c55
                                  by_cases c56 : x49_2 = 1
                                  · rw [if_pos c56] at H
                                    have c56b0 : (x49_2 == 1) = true := beq_iff_eq.mpr c56
                                    have c56b1 : (x49_2 != 1) = false := bne_eq_false_iff_eq.mpr c56
                                    clear c56
                                    have H' := Aside0.mk H
                                    clear H
                                    go_wp2
                                    go_meet
                                    case rel => exact ⟨_, (true), (by first | rfl | (simp; done) | (simp [*]; done)), H', ⟨by have := HJ5.out; have := HK2.out; first | omega | exact Nat.le_refl _⟩, ⟨by (with_reducible repeat (first | refine blk_drewN ?_ _ | refine blk_drew ?_ | refine blk_alloc ?_ _)); refine blk_far ?_ NB363_383.out _; (with_reducible repeat (first | refine blk_drewN ?_ _ | refine blk_drew ?_ | refine blk_alloc ?_ _)); refine blk_far ?_ NB363_383.out _; (with_reducible repeat (first | refine blk_drewN ?_ _ | refine blk_drew ?_ | refine blk_alloc ?_ _)); exact BK363.out⟩, ⟨by (with_reducible repeat (first | refine blk_drewN ?_ _ | refine blk_drew ?_ | refine blk_alloc ?_ _)); refine blk_far ?_ NB368_383.out _; (with_reducible repeat (first | refine blk_drewN ?_ _ | refine blk_drew ?_ | refine blk_alloc ?_ _)); refine blk_far ?_ NB368_383.out _; (with_reducible repeat (first | refine blk_drewN ?_ _ | refine blk_drew ?_ | refine blk_alloc ?_ _)); exact BK368.out⟩, ⟨by (with_reducible repeat (first | refine blk_drewN ?_ _ | refine blk_drew ?_ | refine blk_alloc ?_ _)); refine blk_far ?_ NB373_383.out _; (with_reducible repeat (first | refine blk_drewN ?_ _ | refine blk_drew ?_ | refine blk_alloc ?_ _)); refine blk_far ?_ NB373_383.out _; (with_reducible repeat (first | refine blk_drewN ?_ _ | refine blk_drew ?_ | refine blk_alloc ?_ _)); exact BK373.out⟩, ⟨by (with_reducible repeat (first | refine blk_drewN ?_ _ | refine blk_drew ?_ | refine blk_alloc ?_ _)); refine blk_far ?_ NB378_383.out _; (with_reducible repeat (first | refine blk_drewN ?_ _ | refine blk_drew ?_ | refine blk_alloc ?_ _)); refine blk_far ?_ NB378_383.out _; (with_reducible repeat (first | refine blk_drewN ?_ _ | refine blk_drew ?_ | refine blk_alloc ?_ _)); exact BK378.out⟩, ⟨by (with_reducible repeat (first | refine blk_drewN ?_ _ | refine blk_drew ?_ | refine blk_alloc ?_ _)); refine blk_put (cs := #[.int .i64 t380, .int .i64 0]) ?_ 1 _ rfl; (with_reducible repeat (first | refine blk_drewN ?_ _ | refine blk_drew ?_ | refine blk_alloc ?_ _)); refine blk_put (cs := #[.int .i64 0, .int .i64 0]) ?_ 0 _ rfl; (with_reducible repeat (first | refine blk_drewN ?_ _ | refine blk_drew ?_ | refine blk_alloc ?_ _)); exact BK383.out⟩, ⟨by repeat (first | (with_reducible first | exact HB.out | apply below_alloc | apply pw_below_drewN | apply below_drew1 | refine below_set ?_ GE363.out | refine below_set ?_ GE368.out | refine below_set ?_ GE373.out | refine below_set ?_ GE378.out | refine below_set ?_ GE383.out) | exact HB.out)⟩⟩
                                  · rw [if_neg c56] at H
                                    have c56b0 : (x49_2 == 1) = false := beq_eq_false_iff_ne.mpr c56
                                    have c56b1 : (x49_2 != 1) = true := bne_iff_ne.mpr c56
                                    have H' := Aside0.mk H
                                    clear H
                                    go_wp2
                                    go_meet
                                    case rel => exact ⟨_, (decide (t364 < 0)), (by first | rfl | (simp; done) | (simp [*]; done)), H', ⟨by have := HJ5.out; have := HK2.out; first | omega | exact Nat.le_refl _⟩, ⟨by (with_reducible repeat (first | refine blk_drewN ?_ _ | refine blk_drew ?_ | refine blk_alloc ?_ _)); refine blk_far ?_ NB363_383.out _; (with_reducible repeat (first | refine blk_drewN ?_ _ | refine blk_drew ?_ | refine blk_alloc ?_ _)); refine blk_far ?_ NB363_383.out _; (with_reducible repeat (first | refine blk_drewN ?_ _ | refine blk_drew ?_ | refine blk_alloc ?_ _)); exact BK363.out⟩, ⟨by (with_reducible repeat (first | refine blk_drewN ?_ _ | refine blk_drew ?_ | refine blk_alloc ?_ _)); refine blk_far ?_ NB368_383.out _; (with_reducible repeat (first | refine blk_drewN ?_ _ | refine blk_drew ?_ | refine blk_alloc ?_ _)); refine blk_far ?_ NB368_383.out _; (with_reducible repeat (first | refine blk_drewN ?_ _ | refine blk_drew ?_ | refine blk_alloc ?_ _)); exact BK368.out⟩, ⟨by (with_reducible repeat (first | refine blk_drewN ?_ _ | refine blk_drew ?_ | refine blk_alloc ?_ _)); refine blk_far ?_ NB373_383.out _; (with_reducible repeat (first | refine blk_drewN ?_ _ | refine blk_drew ?_ | refine blk_alloc ?_ _)); refine blk_far ?_ NB373_383.out _; (with_reducible repeat (first | refine blk_drewN ?_ _ | refine blk_drew ?_ | refine blk_alloc ?_ _)); exact BK373.out⟩, ⟨by (with_reducible repeat (first | refine blk_drewN ?_ _ | refine blk_drew ?_ | refine blk_alloc ?_ _)); refine blk_far ?_ NB378_383.out _; (with_reducible repeat (first | refine blk_drewN ?_ _ | refine blk_drew ?_ | refine blk_alloc ?_ _)); refine blk_far ?_ NB378_383.out _; (with_reducible repeat (first | refine blk_drewN ?_ _ | refine blk_drew ?_ | refine blk_alloc ?_ _)); exact BK378.out⟩, ⟨by (with_reducible repeat (first | refine blk_drewN ?_ _ | refine blk_drew ?_ | refine blk_alloc ?_ _)); refine blk_put (cs := #[.int .i64 t380, .int .i64 0]) ?_ 1 _ rfl; (with_reducible repeat (first | refine blk_drewN ?_ _ | refine blk_drew ?_ | refine blk_alloc ?_ _)); refine blk_put (cs := #[.int .i64 0, .int .i64 0]) ?_ 0 _ rfl; (with_reducible repeat (first | refine blk_drewN ?_ _ | refine blk_drew ?_ | refine blk_alloc ?_ _)); exact BK383.out⟩, ⟨by repeat (first | (with_reducible first | exact HB.out | apply below_alloc | apply pw_below_drewN | apply below_drew1 | refine below_set ?_ GE363.out | refine below_set ?_ GE368.out | refine below_set ?_ GE373.out | refine below_set ?_ GE378.out | refine below_set ?_ GE383.out) | exact HB.out)⟩⟩
                                · rw [if_neg c55] at H
                                  have c55b0 : decide (a1 < t364) = false := decide_eq_false c55
                                  clear c55
                                  by_cases c57 : x49_2 = 1
                                  · rw [if_pos c57] at H
                                    have c57b0 : (x49_2 == 1) = true := beq_iff_eq.mpr c57
                                    have c57b1 : (x49_2 != 1) = false := bne_eq_false_iff_eq.mpr c57
                                    clear c57
                                    have H' := Aside0.mk H
                                    clear H
                                    go_wp2
                                    go_meet
                                    case rel => exact ⟨_, (false), (by first | rfl | (simp; done) | (simp [*]; done)), H', ⟨by have := HJ5.out; have := HK2.out; first | omega | exact Nat.le_refl _⟩, ⟨by (with_reducible repeat (first | refine blk_drewN ?_ _ | refine blk_drew ?_ | refine blk_alloc ?_ _)); refine blk_far ?_ NB363_383.out _; (with_reducible repeat (first | refine blk_drewN ?_ _ | refine blk_drew ?_ | refine blk_alloc ?_ _)); refine blk_far ?_ NB363_383.out _; (with_reducible repeat (first | refine blk_drewN ?_ _ | refine blk_drew ?_ | refine blk_alloc ?_ _)); exact BK363.out⟩, ⟨by (with_reducible repeat (first | refine blk_drewN ?_ _ | refine blk_drew ?_ | refine blk_alloc ?_ _)); refine blk_far ?_ NB368_383.out _; (with_reducible repeat (first | refine blk_drewN ?_ _ | refine blk_drew ?_ | refine blk_alloc ?_ _)); refine blk_far ?_ NB368_383.out _; (with_reducible repeat (first | refine blk_drewN ?_ _ | refine blk_drew ?_ | refine blk_alloc ?_ _)); exact BK368.out⟩, ⟨by (with_reducible repeat (first | refine blk_drewN ?_ _ | refine blk_drew ?_ | refine blk_alloc ?_ _)); refine blk_far ?_ NB373_383.out _; (with_reducible repeat (first | refine blk_drewN ?_ _ | refine blk_drew ?_ | refine blk_alloc ?_ _)); refine blk_far ?_ NB373_383.out _; (with_reducible repeat (first | refine blk_drewN ?_ _ | refine blk_drew ?_ | refine blk_alloc ?_ _)); exact BK373.out⟩, ⟨by (with_reducible repeat (first | refine blk_drewN ?_ _ | refine blk_drew ?_ | refine blk_alloc ?_ _)); refine blk_far ?_ NB378_383.out _; (with_reducible repeat (first | refine blk_drewN ?_ _ | refine blk_drew ?_ | refine blk_alloc ?_ _)); refine blk_far ?_ NB378_383.out _; (with_reducible repeat (first | refine blk_drewN ?_ _ | refine blk_drew ?_ | refine blk_alloc ?_ _)); exact BK378.out⟩, ⟨by (with_reducible repeat (first | refine blk_drewN ?_ _ | refine blk_drew ?_ | refine blk_alloc ?_ _)); refine blk_put (cs := #[.int .i64 t380, .int .i64 0]) ?_ 1 _ rfl; (with_reducible repeat (first | refine blk_drewN ?_ _ | refine blk_drew ?_ | refine blk_alloc ?_ _)); refine blk_put (cs := #[.int .i64 0, .int .i64 0]) ?_ 0 _ rfl; (with_reducible repeat (first | refine blk_drewN ?_ _ | refine blk_drew ?_ | refine blk_alloc ?_ _)); exact BK383.out⟩, ⟨by repeat (first | (with_reducible first | exact HB.out | apply below_alloc | apply pw_below_drewN | apply below_drew1 | refine below_set ?_ GE363.out | refine below_set ?_ GE368.out | refine below_set ?_ GE373.out | refine below_set ?_ GE378.out | refine below_set ?_ GE383.out) | exact HB.out)⟩⟩
                                  · rw [if_neg c57] at H
                                    have c57b0 : (x49_2 == 1) = false := beq_eq_false_iff_ne.mpr c57
                                    have c57b1 : (x49_2 != 1) = true := bne_iff_ne.mpr c57
                                    have H' := Aside0.mk H
                                    clear H
                                    go_wp2
                                    go_meet
                                    case rel => exact ⟨_, (decide (t364 < 0)), (by first | rfl | (simp; done) | (simp [*]; done)), H', ⟨by have := HJ5.out; have := HK2.out; first | omega | exact Nat.le_refl _⟩, ⟨by (with_reducible repeat (first | refine blk_drewN ?_ _ | refine blk_drew ?_ | refine blk_alloc ?_ _)); refine blk_far ?_ NB363_383.out _; (with_reducible repeat (first | refine blk_drewN ?_ _ | refine blk_drew ?_ | refine blk_alloc ?_ _)); refine blk_far ?_ NB363_383.out _; (with_reducible repeat (first | refine blk_drewN ?_ _ | refine blk_drew ?_ | refine blk_alloc ?_ _)); exact BK363.out⟩, ⟨by (with_reducible repeat (first | refine blk_drewN ?_ _ | refine blk_drew ?_ | refine blk_alloc ?_ _)); refine blk_far ?_ NB368_383.out _; (with_reducible repeat (first | refine blk_drewN ?_ _ | refine blk_drew ?_ | refine blk_alloc ?_ _)); refine blk_far ?_ NB368_383.out _; (with_reducible repeat (first | refine blk_drewN ?_ _ | refine blk_drew ?_ | refine blk_alloc ?_ _)); exact BK368.out⟩, ⟨by (with_reducible repeat (first | refine blk_drewN ?_ _ | refine blk_drew ?_ | refine blk_alloc ?_ _)); refine blk_far ?_ NB373_383.out _; (with_reducible repeat (first | refine blk_drewN ?_ _ | refine blk_drew ?_ | refine blk_alloc ?_ _)); refine blk_far ?_ NB373_383.out _; (with_reducible repeat (first | refine blk_drewN ?_ _ | refine blk_drew ?_ | refine blk_alloc ?_ _)); exact BK373.out⟩, ⟨by (with_reducible repeat (first | refine blk_drewN ?_ _ | refine blk_drew ?_ | refine blk_alloc ?_ _)); refine blk_far ?_ NB378_383.out _; (with_reducible repeat (first | refine blk_drewN ?_ _ | refine blk_drew ?_ | refine blk_alloc ?_ _)); refine blk_far ?_ NB378_383.out _; (with_reducible repeat (first | refine blk_drewN ?_ _ | refine blk_drew ?_ | refine blk_alloc ?_ _)); exact BK378.out⟩, ⟨by (with_reducible repeat (first | refine blk_drewN ?_ _ | refine blk_drew ?_ | refine blk_alloc ?_ _)); refine blk_put (cs := #[.int .i64 t380, .int .i64 0]) ?_ 1 _ rfl; (with_reducible repeat (first | refine blk_drewN ?_ _ | refine blk_drew ?_ | refine blk_alloc ?_ _)); refine blk_put (cs := #[.int .i64 0, .int .i64 0]) ?_ 0 _ rfl; (with_reducible repeat (first | refine blk_drewN ?_ _ | refine blk_drew ?_ | refine blk_alloc ?_ _)); exact BK383.out⟩, ⟨by repeat (first | (with_reducible first | exact HB.out | apply below_alloc | apply pw_below_drewN | apply below_drew1 | refine below_set ?_ GE363.out | refine below_set ?_ GE368.out | refine below_set ?_ GE373.out | refine below_set ?_ GE378.out | refine below_set ?_ GE383.out) | exact HB.out)⟩⟩
                    · rw [if_neg c49] at H
                      have c49b0 : ((wrap64 ((wrap64 ((wrap64 (t367 + t372)) + t377)) + t382)) == 0) = false := beq_eq_false_iff_ne.mpr c49
                      have c49b1 : ((wrap64 ((wrap64 ((wrap64 (t367 + t372)) + t377)) + t382)) != 0) = true := bne_iff_ne.mpr c49
                      (first | rw [c49b0] | (simp only [i64_w, i32_w]; rw [c49b0]) | skip)
                      have H' := Aside0.mk H
                      clear H
                      go_wp2
                      go_meet
                      case rel => exact ⟨_, (true), (by first | rfl | (simp; done) | (simp [*]; done)), H', ⟨by have := HJ5.out; have := HK2.out; first | omega | exact Nat.le_refl _⟩, ⟨by (with_reducible repeat (first | refine blk_drewN ?_ _ | refine blk_drew ?_ | refine blk_alloc ?_ _)); refine blk_far ?_ NB363_383.out _; (with_reducible repeat (first | refine blk_drewN ?_ _ | refine blk_drew ?_ | refine blk_alloc ?_ _)); refine blk_far ?_ NB363_383.out _; (with_reducible repeat (first | refine blk_drewN ?_ _ | refine blk_drew ?_ | refine blk_alloc ?_ _)); exact BK363.out⟩, ⟨by (with_reducible repeat (first | refine blk_drewN ?_ _ | refine blk_drew ?_ | refine blk_alloc ?_ _)); refine blk_far ?_ NB368_383.out _; (with_reducible repeat (first | refine blk_drewN ?_ _ | refine blk_drew ?_ | refine blk_alloc ?_ _)); refine blk_far ?_ NB368_383.out _; (with_reducible repeat (first | refine blk_drewN ?_ _ | refine blk_drew ?_ | refine blk_alloc ?_ _)); exact BK368.out⟩, ⟨by (with_reducible repeat (first | refine blk_drewN ?_ _ | refine blk_drew ?_ | refine blk_alloc ?_ _)); refine blk_far ?_ NB373_383.out _; (with_reducible repeat (first | refine blk_drewN ?_ _ | refine blk_drew ?_ | refine blk_alloc ?_ _)); refine blk_far ?_ NB373_383.out _; (with_reducible repeat (first | refine blk_drewN ?_ _ | refine blk_drew ?_ | refine blk_alloc ?_ _)); exact BK373.out⟩, ⟨by (with_reducible repeat (first | refine blk_drewN ?_ _ | refine blk_drew ?_ | refine blk_alloc ?_ _)); refine blk_far ?_ NB378_383.out _; (with_reducible repeat (first | refine blk_drewN ?_ _ | refine blk_drew ?_ | refine blk_alloc ?_ _)); refine blk_far ?_ NB378_383.out _; (with_reducible repeat (first | refine blk_drewN ?_ _ | refine blk_drew ?_ | refine blk_alloc ?_ _)); exact BK378.out⟩, ⟨by (with_reducible repeat (first | refine blk_drewN ?_ _ | refine blk_drew ?_ | refine blk_alloc ?_ _)); refine blk_put (cs := #[.int .i64 t380, .int .i64 0]) ?_ 1 _ rfl; (with_reducible repeat (first | refine blk_drewN ?_ _ | refine blk_drew ?_ | refine blk_alloc ?_ _)); refine blk_put (cs := #[.int .i64 0, .int .i64 0]) ?_ 0 _ rfl; (with_reducible repeat (first | refine blk_drewN ?_ _ | refine blk_drew ?_ | refine blk_alloc ?_ _)); exact BK383.out⟩, ⟨by repeat (first | (with_reducible first | exact HB.out | apply below_alloc | apply pw_below_drewN | apply below_drew1 | refine below_set ?_ GE363.out | refine below_set ?_ GE368.out | refine below_set ?_ GE373.out | refine below_set ?_ GE378.out | refine below_set ?_ GE383.out) | exact HB.out)⟩⟩
                  case rest => as_aux_lemma =>
                    clear HC22
                    try clear c1
                    try clear c2
                    try clear p2
                    try clear c3
                    try clear c4
                    try clear c5
                    try clear p6
                    try clear c7
                    try clear c8
                    try clear c8b0
                    try clear c9
                    try clear c9b0
                    try clear c10
                    try clear c10b0
                    try clear c11
                    try clear c11b0
                    try clear c12
                    try clear c12b0
                    try clear c13
                    try clear c16
                    try clear c16b0
                    try clear c17
                    try clear c17b0
                    try clear c24
                    try clear c25
                    try clear c26
                    try clear c31
                    try clear c32
                    try clear c37
                    try clear c38
                    try clear c39
                    try clear c44
                    try clear c45
                    try clear c46
                    try clear c47
                    try clear c49
                    try clear c49b0
                    try clear c49b1
                    try clear c50
                    try clear c50b0
                    try clear c51
                    try clear c51b0
                    try clear c52
                    try clear c52b0
                    try clear c53
                    try clear c53b0
                    try clear c54
                    try clear c54b0
                    try clear c55
                    try clear c55b0
                    try clear c56
                    try clear c56b0
                    try clear c56b1
                    try clear c57
                    try clear c57b0
                    try clear c57b1
                    try clear hcz15_0
                    try clear hcz15_1
                    try clear hcz15_2
                    try clear hcz15_3
                    try clear hcz15_4
                    try clear hcz23_0
                    try clear hcz23_1
                    try clear hcz23_2
                    try clear hcz23_3
                    try clear hcz23_4
                    try clear hcz27_0
                    try clear hcz27_1
                    try clear hcz28_0
                    try clear hcz28_1
                    try clear hcz28_2
                    try clear hcz28_3
                    try clear hcz28_4
                    try clear hcz33_0
                    try clear hcz33_1
                    try clear hcz34_0
                    try clear hcz34_1
                    try clear hcz34_2
                    try clear hcz34_3
                    try clear hcz34_4
                    try clear hcz40_0
                    try clear hcz40_1
                    try clear hcz41_0
                    try clear hcz41_1
                    try clear hcz41_2
                    try clear hcz41_3
                    try clear hcz41_4
                    try clear hcz48_0
                    try clear hcz48_1
                    try clear hfz15_0
                    try clear hfz15_1
                    try clear hfz15_2
                    try clear hfz15_3
                    try clear hfz15_4
                    try clear hfz23_0
                    try clear hfz23_1
                    try clear hfz23_2
                    try clear hfz23_3
                    try clear hfz23_4
                    try clear hfz27_0
                    try clear hfz27_1
                    try clear hfz28_0
                    try clear hfz28_1
                    try clear hfz28_2
                    try clear hfz28_3
                    try clear hfz28_4
                    try clear hfz33_0
                    try clear hfz33_1
                    try clear hfz34_0
                    try clear hfz34_1
                    try clear hfz34_2
                    try clear hfz34_3
                    try clear hfz34_4
                    try clear hfz40_0
                    try clear hfz40_1
                    try clear hfz41_0
                    try clear hfz41_1
                    try clear hfz41_2
                    try clear hfz41_3
                    try clear hfz41_4
                    try clear hfz48_0
                    try clear hfz48_1
                    try clear p2
                    obtain ⟨kq, x145_21, rfl, HA, HJ21, BK363, BK368, BK373, BK378, BK383, HB⟩ := hcut
                    cases kq with
                    | zero => exact absurd HA.out (by simp [stipendlaw14_HoldRises.j2])
                    | succ kj21 =>
                      have H := HA.out
                      clear HA
                      simp only [stipendlaw14_HoldRises.j2] at H
                      by_cases c58 : x145_21 = true
                      · subst c58
                        have H1 : (some false) = some r := by rw [if_pos rfl] at H; exact H
                        clear H
                        have H := H1
                        clear H1
                        obtain rfl := Option.some.inj H
                        go_wp2
                        go_ret
                        exact ⟨by first | rfl | (simp [errW_none, errW_some] <;> rfl) | (simp [*, errW_none, errW_some] <;> rfl), by repeat (first | (with_reducible first | exact HB.out | apply below_alloc | apply pw_below_drewN | apply below_drew1 | refine below_set ?_ GE363.out | refine below_set ?_ GE368.out | refine below_set ?_ GE373.out | refine below_set ?_ GE378.out | refine below_set ?_ GE383.out) | exact HB.out)⟩
                      · replace c58 := Bool.eq_false_iff.mpr c58
                        subst c58
                        have H1 : (stipendlaw14_HoldRises.l0 kj21 a1 a2 (wrap64 (x49_2 + 1)) a0 0) = some r := by rw [if_neg (show ¬ (false = true) by decide)] at H; exact H
                        clear H
                        have H := H1
                        clear H1
                        have H' := Aside0.mk H
                        clear H
                        go_wp2
                        go_roundg kj21
                        case measure => have := HJ5.out; have := HK2.out; have := HJ21.out; omega
                        case rel => exact ⟨(wrap64 (x49_2 + 1)), (by first | rfl | (simp; done) | (simp [*]; done)), H', ⟨by have := HJ5.out; have := HK2.out; have := HJ21.out; omega⟩, ⟨by (with_reducible repeat (first | refine blk_drewN ?_ _ | refine blk_drew ?_ | refine blk_alloc ?_ _)); exact BK363.out⟩, ⟨by repeat (first | (with_reducible first | exact HB.out | apply below_alloc | apply pw_below_drewN | apply below_drew1 | refine below_set ?_ GE363.out | refine below_set ?_ GE368.out | refine below_set ?_ GE373.out | refine below_set ?_ GE378.out | refine below_set ?_ GE383.out) | exact HB.out)⟩⟩
                · rw [if_neg c17] at H
                  exact absurd H (by simp)
              · rw [if_neg c16] at H
                have c16b0 : decide (x49_2 < 2) = false := decide_eq_false c16
                clear c16
                obtain rfl := Option.some.inj H
                go_wp2
                go_ret
                exact ⟨by first | rfl | (simp [errW_none, errW_some] <;> rfl) | (simp [*, errW_none, errW_some] <;> rfl), by repeat (first | (with_reducible first | exact HB.out | apply below_alloc | apply pw_below_drewN | apply below_drew1 | refine below_set ?_ GE363.out) | exact HB.out)⟩
  · replace c5 := Bool.eq_false_iff.mpr c5
    subst c5
    have H1 : (some false) = some r := by rw [if_neg (show ¬ (false = true) by decide)] at H; exact H
    clear H
    have H := H1
    clear H1
    obtain rfl := Option.some.inj H
    go_enter Try.func7, Try.ntmps7
    go_wp2_with (first | ((with_reducible refine gate_callee (f := 24) rfl ?_); refine goesL_ (some 22) rfl rfl Try.func24 (by kernel_rfl) rfl #[] rfl (by (try simp only [List.map_toArray, List.map_cons, List.map_nil]); first | done | rfl | (simp only [List.length_drop, List.length_take]; rfl)) ?_; (with_reducible refine (stipendlaw14_holds.calls k  false _ A4.out).mono ?_); rintro e w59 ⟨rfl, hb⟩; refine ⟨_, rfl, ?_⟩; have n0_ := Aside0.mk (below_step (by repeat (first | (with_reducible first | exact HB.out | apply below_alloc | apply pw_below_drewN | apply below_drew1) | exact HB.out)) hb); clear HB; have HB := n0_; clear n0_; (try clear hb); (try clear hb2); (try clear hk); (try clear hi)))
    go_ret
    exact ⟨by first | rfl | (simp [errW_none, errW_some] <;> rfl) | (simp [*, errW_none, errW_some] <;> rfl), by repeat (first | (with_reducible first | exact HB.out | apply below_alloc | apply pw_below_drewN | apply below_drew1) | exact HB.out)⟩

/-- THE ONE PURE STATEMENT of stipendlaw14_HoldRises: yours. -/
def stipendlaw14_HoldRises.Pure : Prop := ∀ (a0 : Int) (a1 : Int) (a2 : Int), (Lit.int .i64 a0).wf = true → (Lit.int .i64 a1).wf = true → (Lit.int .i64 a2).wf = true → ∃ k, stipendlaw14_HoldRises.f k a0 a1 a2 = some true
theorem stipendlaw14_HoldRises.walk (P : stipendlaw14_HoldRises.Pure) (a0 : Int) (a1 : Int) (a2 : Int) (w : World) (w0 : (Lit.int .i64 a0).wf = true) (w1 : (Lit.int .i64 a1).wf = true) (w2 : (Lit.int .i64 a2).wf = true) :
    Calls Try.prog 7 #[.int .i64 a0, .int .i64 a1, .int .i64 a2] w fun e w' => e = .returned (.bool true) ∧ Below w.heap.size w w' := by
  obtain ⟨k, h⟩ := P a0 a1 a2 w0 w1 w2
  refine (stipendlaw14_HoldRises.calls k a0 a1 a2 true w h).mono ?_
  rintro e w' ⟨rfl, hd⟩
  exact ⟨rfl, hd⟩

end Go.Proofs.Ytfiomckebicphaa.X
