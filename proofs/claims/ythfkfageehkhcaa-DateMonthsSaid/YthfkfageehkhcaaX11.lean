-- laid by the session's own program (xprint.py) out of Lean's print of the program; Lean checks it
import Derived.Test.YthfkfageehkhcaaX0
import Derived.Test.YthfkfageehkhcaaX1
import Derived.Test.YthfkfageehkhcaaX3
import Derived.Test.YthfkfageehkhcaaX5
import Derived.Test.YthfkfageehkhcaaX6
import Derived.Test.YthfkfageehkhcaaX7
import Derived.Test.YthfkfageehkhcaaX10
namespace Go.Proofs.Ythfkfageehkhcaa.X
open Go.RowKit Go.Proofs.YthfkfageehkhcaaW.PrintWords Go.Proofs.YthfkfageehkhcaaW.PrintLast Go.Proofs.YthfkfageehkhcaaW.PrintMore
attribute [local go_sem] max2_int min2_int max_two min_two max_three min_three max_four min_four   -- for this text's walks alone
set_option linter.unusedVariables false
set_option linter.unusedSimpArgs false

attribute [local go_sem high] eqA23
/-! ### stipendlaw03_DateMonths: function 5 -/
def stipendlaw03_DateMonths.j0 : Nat → Int → Int → Bool → Int → Int → Int → Int → Int → Int → Option (Bool)
  | 0, _, _, _, _, _, _, _, _, _ => none
  | k + 1, x1, x6, x22, x213000, x213001, x213002, x219000, x219001, x219002 => if x22 = true then (if x6 = 30 then (some (x219000 == 0 && (x219001 == 0 && (x219002 == 0)))) else (some false)) else ((stipendref03_Months.f k x213000 x213001 x213002 x1).bind fun bt219 => (if bt219.2.2.2 = true then (if x6 = 0 then (some (x219000 == bt219.1 && (x219001 == bt219.2.1 && (x219002 == bt219.2.2.1)))) else (some false)) else (if x6 = 30 then (some (x219000 == 0 && (x219001 == 0 && (x219002 == 0)))) else (some false))))
def stipendlaw03_DateMonths.f (k : Nat) (a0_0 : Int) (a0_1 : Int) (a0_2 : Int) (a1 : Int) : Option (Bool) := (stipendlaw03_days.f k).bind fun t213 => (if t213 = true then ((date_Months.f k a0_0 a0_1 a0_2 a1).bind fun bt214 => (if a1 > 5000 then (stipendlaw03_DateMonths.j0 k a1 bt214.2.2.2 true a0_0 a0_1 a0_2 bt214.1 bt214.2.1 bt214.2.2.1) else (stipendlaw03_DateMonths.j0 k a1 bt214.2.2.2 (decide (a1 < (-5000))) a0_0 a0_1 a0_2 bt214.1 bt214.2.1 bt214.2.2.1))) else (some false))
theorem stipendlaw03_DateMonths.mono_l : ∀ k, (∀ y0 y1 y2 y3 y4 y5 y6 y7 y8, LeO (stipendlaw03_DateMonths.j0 k y0 y1 y2 y3 y4 y5 y6 y7 y8) (stipendlaw03_DateMonths.j0 (k + 1) y0 y1 y2 y3 y4 y5 y6 y7 y8))
  | 0 => fun _ _ _ _ _ _ _ _ _ r h => by simp [stipendlaw03_DateMonths.j0] at h
  | k + 1 => by
    have ih0 := stipendlaw03_DateMonths.mono_l k
    · intro y0 y1 y2 y3 y4 y5 y6 y7 y8
      unfold stipendlaw03_DateMonths.j0
      repeat' first
      | (with_reducible exact ih0 _ _ _ _ _ _ _ _ _)
      | (with_reducible exact date_Months.mono _ _ _ _ _)
      | (with_reducible exact stipendlaw03_days.mono _)
      | (with_reducible exact stipendref03_Months.mono _ _ _ _ _)
      | (with_reducible exact LeO.refl _)
      | (with_reducible exact LeO.none _)
      | (with_reducible refine LeO.ite ?_ ?_)
      | (with_reducible refine LeO.bind ?_ (fun _ => ?_))
      | exact ih0 _ _ _ _ _ _ _ _ _
      | exact date_Months.mono _ _ _ _ _
      | exact stipendlaw03_days.mono _
      | exact stipendref03_Months.mono _ _ _ _ _
      | exact LeO.none _
      | refine LeO.ite ?_ ?_
      | refine LeO.bind ?_ (fun _ => ?_)
theorem stipendlaw03_DateMonths.mono : ∀ a0 a1 a2 a3 k, LeO (stipendlaw03_DateMonths.f k a0 a1 a2 a3) (stipendlaw03_DateMonths.f (k + 1) a0 a1 a2 a3) := by
  intro a0 a1 a2 a3 k
  have ih0 := stipendlaw03_DateMonths.mono_l k
  unfold stipendlaw03_DateMonths.f
  repeat' first
      | (with_reducible exact ih0 _ _ _ _ _ _ _ _ _)
      | (with_reducible exact date_Months.mono _ _ _ _ _)
      | (with_reducible exact stipendlaw03_days.mono _)
      | (with_reducible exact stipendref03_Months.mono _ _ _ _ _)
      | (with_reducible exact LeO.refl _)
      | (with_reducible exact LeO.none _)
      | (with_reducible refine LeO.ite ?_ ?_)
      | (with_reducible refine LeO.bind ?_ (fun _ => ?_))
      | exact ih0 _ _ _ _ _ _ _ _ _
      | exact date_Months.mono _ _ _ _ _
      | exact stipendlaw03_days.mono _
      | exact stipendref03_Months.mono _ _ _ _ _
      | exact LeO.none _
      | refine LeO.ite ?_ ?_
      | refine LeO.bind ?_ (fun _ => ?_)
set_option maxHeartbeats 8000000 in
set_option maxRecDepth 100000 in
theorem stipendlaw03_DateMonths.calls (k : Nat) (a0_0 : Int) (a0_1 : Int) (a0_2 : Int) (a1 : Int) (r : Bool) (w : World) (h : stipendlaw03_DateMonths.f k a0_0 a0_1 a0_2 a1 = some r) :
    Calls Try.prog 5 #[.agg #[.int .i64 a0_0, .int .i64 a0_1, .int .i64 a0_2], .int .i64 a1] w fun e w' => e = .returned (.bool r) ∧ Below w.heap.size w w' := by
  have hu23 := Try.underlying23
  have HB := Aside0.mk (Below.refl w.heap.size w)
  have H : ((stipendlaw03_days.f k).bind fun t213 => (if t213 = true then ((date_Months.f k a0_0 a0_1 a0_2 a1).bind fun bt214 => (if a1 > 5000 then (stipendlaw03_DateMonths.j0 k a1 bt214.2.2.2 true a0_0 a0_1 a0_2 bt214.1 bt214.2.1 bt214.2.2.1) else (stipendlaw03_DateMonths.j0 k a1 bt214.2.2.2 (decide (a1 < (-5000))) a0_0 a0_1 a0_2 bt214.1 bt214.2.1 bt214.2.2.1))) else (some false))) = some r := h
  clear h
  replace H := Option.bind_eq_some_iff.mp H
  obtain ⟨t213, A30, H⟩ := H
  replace H : (if t213 = true then ((date_Months.f k a0_0 a0_1 a0_2 a1).bind fun bt214 => (if a1 > 5000 then (stipendlaw03_DateMonths.j0 k a1 bt214.2.2.2 true a0_0 a0_1 a0_2 bt214.1 bt214.2.1 bt214.2.2.1) else (stipendlaw03_DateMonths.j0 k a1 bt214.2.2.2 (decide (a1 < (-5000))) a0_0 a0_1 a0_2 bt214.1 bt214.2.1 bt214.2.2.1))) else (some false)) = some r := H
  have A3 := Aside0.mk A30
  clear A30
  by_cases c4 : t213 = true
  · subst c4
    have H1 : ((date_Months.f k a0_0 a0_1 a0_2 a1).bind fun bt214 => (if a1 > 5000 then (stipendlaw03_DateMonths.j0 k a1 bt214.2.2.2 true a0_0 a0_1 a0_2 bt214.1 bt214.2.1 bt214.2.2.1) else (stipendlaw03_DateMonths.j0 k a1 bt214.2.2.2 (decide (a1 < (-5000))) a0_0 a0_1 a0_2 bt214.1 bt214.2.1 bt214.2.2.1))) = some r := by rw [if_pos rfl] at H; exact H
    clear H
    have H := H1
    clear H1
    replace H := Option.bind_eq_some_iff.mp H
    obtain ⟨⟨t214, t215, t216, t217⟩, A50, H⟩ := H
    replace H : (if a1 > 5000 then (stipendlaw03_DateMonths.j0 k a1 t217 true a0_0 a0_1 a0_2 t214 t215 t216) else (stipendlaw03_DateMonths.j0 k a1 t217 (decide (a1 < (-5000))) a0_0 a0_1 a0_2 t214 t215 t216)) = some r := H
    have A5 := Aside0.mk A50
    clear A50
    have HC6 := Aside0.mk H
    clear H
    go_enter Try.func5, Try.ntmps5
    go_upto_region 4 with (first | ((with_reducible refine gate_dst (N := 2) rfl ?_); refine box_event ?hg (N := 2) ?hd (cs := #[.int .i64 a0_0, .int .i64 a0_1, .int .i64 a0_2]) (t := 23) ?hr ?_; (case hd => rfl); (case hg => rfl); (case hr => first | (go_simp; done) | (go_simp; rfl)); intro gb212 hg w7 hbox hb; have n0_ := Aside0.mk (below_step (by repeat (first | (with_reducible first | exact HB.out | apply below_alloc | apply pw_below_drewN | apply below_drew1) | exact HB.out)) hb); have n1_ := Aside0.mk (hbox); have n2_ := Aside0.mk ((by rw [hg]; exact (below_size (by repeat (first | (with_reducible first | exact HB.out | apply below_alloc | apply pw_below_drewN | apply below_drew1) | exact HB.out))) : w.heap.size ≤ gb212)); have n3_ := Aside0.mk ((by rw [hg]; exact (below_size (by repeat (first | (with_reducible first | exact HB.out | apply below_alloc | apply pw_below_drewN | apply below_drew1) | exact HB.out))) : w.heap.size ≤ gb212)); clear HB; have HB := n0_; have BK212 := n1_; have GW212 := n2_; have GE212 := n3_; clear n0_ n1_ n2_ n3_; clear hb hbox hg) | ((with_reducible refine gate_callee (f := 10) rfl ?_); refine goesL_ (some 9) rfl rfl Try.func10 (by kernel_rfl) rfl #[] rfl (by (try simp only [List.map_toArray, List.map_cons, List.map_nil]); first | done | rfl | (simp only [List.length_drop, List.length_take]; rfl)) ?_; (with_reducible refine (stipendlaw03_days.calls k  true _ A3.out).mono ?_); rintro e w8 ⟨rfl, hb⟩; refine ⟨_, rfl, ?_⟩; have n0_ := Aside0.mk (blk_below (g := gb212) (o := .cells #[.int .i64 a0_0, .int .i64 a0_1, .int .i64 a0_2] 23 (0, 0)) (by (with_reducible repeat (first | refine blk_drewN ?_ _ | refine blk_drew ?_ | refine blk_alloc ?_ _)); exact BK212.out) hb); have n1_ := Aside0.mk (below_step (by repeat (first | (with_reducible first | exact HB.out | apply below_alloc | apply pw_below_drewN | apply below_drew1 | refine below_set ?_ GE212.out) | exact HB.out)) hb); clear BK212; clear HB; have BK212 := n0_; have HB := n1_; clear n0_ n1_; (try clear hb); (try clear hb2); (try clear hk); (try clear hi); have hcz9_0 : w8.cell? ⟨gb212, 0, none⟩ = some (.int .i64 a0_0) := (blk_cell BK212.out 0).trans rfl; have hcz9_1 : w8.cell? ⟨gb212, 1, none⟩ = some (.int .i64 a0_1) := (blk_cell BK212.out 1).trans rfl; have hcz9_2 : w8.cell? ⟨gb212, 2, none⟩ = some (.int .i64 a0_2) := (blk_cell BK212.out 2).trans rfl; have hfz9_0 := blk_frozen BK212.out 0; have hfz9_1 := blk_frozen BK212.out 1; have hfz9_2 := blk_frozen BK212.out 2) | ((with_reducible refine gate_callee (f := 20) rfl ?_); refine goesL_ (some 14) rfl rfl Try.func20 (by kernel_rfl) rfl #[.agg #[.int .i64 a0_0, .int .i64 a0_1, .int .i64 a0_2], .int .i64 a1] rfl (by (try simp only [List.map_toArray, List.map_cons, List.map_nil]); first | done | rfl | (simp only [List.length_drop, List.length_take]; rfl)) ?_; (with_reducible refine (date_Months.calls k a0_0 a0_1 a0_2 a1 t214 t215 t216 t217 _ A5.out).mono ?_); rintro e w10 ⟨rfl, hb⟩; refine ⟨_, rfl, ?_⟩; have n0_ := Aside0.mk (blk_below (g := gb212) (o := .cells #[.int .i64 a0_0, .int .i64 a0_1, .int .i64 a0_2] 23 (0, 0)) (by (with_reducible repeat (first | refine blk_drewN ?_ _ | refine blk_drew ?_ | refine blk_alloc ?_ _)); exact BK212.out) hb); have n1_ := Aside0.mk (below_step (by repeat (first | (with_reducible first | exact HB.out | apply below_alloc | apply pw_below_drewN | apply below_drew1 | refine below_set ?_ GE212.out) | exact HB.out)) hb); clear BK212; clear HB; have BK212 := n0_; have HB := n1_; clear n0_ n1_; (try clear hb); (try clear hb2); (try clear hk); (try clear hi)) | ((with_reducible refine gate_dst (N := 5) rfl ?_); refine box_event ?hg (N := 5) ?hd (cs := #[.int .i64 0, .int .i64 0, .int .i64 0]) (t := 23) ?hr ?_; (case hd => rfl); (case hg => rfl); (case hr => first | (go_simp; done) | (go_simp; rfl)); intro gb218 hg w11 hbox hb; have n0_ := Aside0.mk (blk_below (g := gb212) (o := .cells #[.int .i64 a0_0, .int .i64 a0_1, .int .i64 a0_2] 23 (0, 0)) (by (with_reducible repeat (first | refine blk_drewN ?_ _ | refine blk_drew ?_ | refine blk_alloc ?_ _)); exact BK212.out) hb); have n1_ := Aside0.mk (below_step (by repeat (first | (with_reducible first | exact HB.out | apply below_alloc | apply pw_below_drewN | apply below_drew1 | refine below_set ?_ GE212.out) | exact HB.out)) hb); have n2_ := Aside0.mk (hbox); have n3_ := Aside0.mk ((by rw [hg]; exact (below_size (by repeat (first | (with_reducible first | exact HB.out | apply below_alloc | apply pw_below_drewN | apply below_drew1 | refine below_set ?_ GE212.out) | exact HB.out))) : w.heap.size ≤ gb218)); have n4_ := Aside0.mk ((by rw [hg]; exact (below_size (by repeat (first | (with_reducible first | exact HB.out | apply below_alloc | apply pw_below_drewN | apply below_drew1 | refine below_set ?_ GE212.out) | exact HB.out))) : w.heap.size ≤ gb218)); have n5_ := Aside0.mk ((by rw [hg]; exact Nat.ne_of_lt (blk_lt (g := gb212) (o := .cells #[.int .i64 a0_0, .int .i64 a0_1, .int .i64 a0_2] 23 (0, 0)) (by (with_reducible repeat (first | refine blk_drewN ?_ _ | refine blk_drew ?_ | refine blk_alloc ?_ _)); exact BK212.out)) : gb212 ≠ gb218)); have n6_ := Aside0.mk ((by rw [hg]; exact Nat.ne_of_gt (blk_lt (g := gb212) (o := .cells #[.int .i64 a0_0, .int .i64 a0_1, .int .i64 a0_2] 23 (0, 0)) (by (with_reducible repeat (first | refine blk_drewN ?_ _ | refine blk_drew ?_ | refine blk_alloc ?_ _)); exact BK212.out)) : gb218 ≠ gb212)); clear BK212; clear HB; have BK212 := n0_; have HB := n1_; have BK218 := n2_; have GW218 := n3_; have GE218 := n4_; have NB212_218 := n5_; have NB218_212 := n6_; clear n0_ n1_ n2_ n3_ n4_ n5_ n6_; clear hb hbox hg; have hnb12 := NB218_212.out; have hnc12 := NB212_218.out; have hcz13_0 : w11.cell? ⟨gb218, 0, none⟩ = some (.int .i64 0) := (blk_cell BK218.out 0).trans rfl; have hcz13_1 : w11.cell? ⟨gb218, 1, none⟩ = some (.int .i64 0) := (blk_cell BK218.out 1).trans rfl; have hcz13_2 : w11.cell? ⟨gb218, 2, none⟩ = some (.int .i64 0) := (blk_cell BK218.out 2).trans rfl; have hfz13_0 := blk_frozen BK218.out 0; have hfz13_1 := blk_frozen BK218.out 1; have hfz13_2 := blk_frozen BK218.out 2))
    (try simp only [Act.put, List.setIfInBounds_toArray, List.set_cons_zero, List.set_cons_succ])
    go_cut [22] (fun v22 wc => ∃ (kq : Nat) (x22_5 : Bool), v22 = .bool x22_5 ∧ Aside0 (stipendlaw03_DateMonths.j0 kq a1 t217 x22_5 a0_0 a0_1 a0_2 t214 t215 t216 = some r) ∧ Aside0 (kq ≤ k) ∧ Aside0 (wc.heap[gb212]? = some (.cells #[.int .i64 a0_0, .int .i64 a0_1, .int .i64 a0_2] 23 (0, 0))) ∧ Aside0 (wc.heap[gb218]? = some (.cells #[.int .i64 t214, .int .i64 t215, .int .i64 t216] 23 (0, 0))) ∧ Aside0 (Below w.heap.size w wc))
    case first =>
      have H := HC6.out
      clear HC6
      by_cases c14 : a1 > 5000
      · rw [if_pos c14] at H
        have c14b0 : decide (5000 < a1) = true := decide_eq_true c14
        clear c14
        (first | rw [c14b0] | (simp only [i64_w, i32_w]; rw [c14b0]) | skip)
        have H' := Aside0.mk H
        clear H
        go_wp2
        go_meet
        case rel => exact ⟨_, (true), (by first | rfl | (simp; done) | (simp [*]; done)), H', ⟨by first | omega | exact Nat.le_refl _⟩, ⟨by (with_reducible repeat (first | refine blk_drewN ?_ _ | refine blk_drew ?_ | refine blk_alloc ?_ _)); refine blk_far ?_ NB212_218.out _; (with_reducible repeat (first | refine blk_drewN ?_ _ | refine blk_drew ?_ | refine blk_alloc ?_ _)); refine blk_far ?_ NB212_218.out _; (with_reducible repeat (first | refine blk_drewN ?_ _ | refine blk_drew ?_ | refine blk_alloc ?_ _)); refine blk_far ?_ NB212_218.out _; (with_reducible repeat (first | refine blk_drewN ?_ _ | refine blk_drew ?_ | refine blk_alloc ?_ _)); exact BK212.out⟩, ⟨by (with_reducible repeat (first | refine blk_drewN ?_ _ | refine blk_drew ?_ | refine blk_alloc ?_ _)); refine blk_put (cs := #[.int .i64 t214, .int .i64 t215, .int .i64 0]) ?_ 2 _ rfl; (with_reducible repeat (first | refine blk_drewN ?_ _ | refine blk_drew ?_ | refine blk_alloc ?_ _)); refine blk_put (cs := #[.int .i64 t214, .int .i64 0, .int .i64 0]) ?_ 1 _ rfl; (with_reducible repeat (first | refine blk_drewN ?_ _ | refine blk_drew ?_ | refine blk_alloc ?_ _)); refine blk_put (cs := #[.int .i64 0, .int .i64 0, .int .i64 0]) ?_ 0 _ rfl; (with_reducible repeat (first | refine blk_drewN ?_ _ | refine blk_drew ?_ | refine blk_alloc ?_ _)); exact BK218.out⟩, ⟨by repeat (first | (with_reducible first | exact HB.out | apply below_alloc | apply pw_below_drewN | apply below_drew1 | refine below_set ?_ GE212.out | refine below_set ?_ GE218.out) | exact HB.out)⟩⟩
      · rw [if_neg c14] at H
        have c14b0 : decide (5000 < a1) = false := decide_eq_false c14
        clear c14
        (first | rw [c14b0] | (simp only [i64_w, i32_w]; rw [c14b0]) | skip)
        have H' := Aside0.mk H
        clear H
        go_wp2
        go_meet
        case rel => exact ⟨_, (decide (a1 < (-5000))), (by first | rfl | (simp; done) | (simp [*]; done)), H', ⟨by first | omega | exact Nat.le_refl _⟩, ⟨by (with_reducible repeat (first | refine blk_drewN ?_ _ | refine blk_drew ?_ | refine blk_alloc ?_ _)); refine blk_far ?_ NB212_218.out _; (with_reducible repeat (first | refine blk_drewN ?_ _ | refine blk_drew ?_ | refine blk_alloc ?_ _)); refine blk_far ?_ NB212_218.out _; (with_reducible repeat (first | refine blk_drewN ?_ _ | refine blk_drew ?_ | refine blk_alloc ?_ _)); refine blk_far ?_ NB212_218.out _; (with_reducible repeat (first | refine blk_drewN ?_ _ | refine blk_drew ?_ | refine blk_alloc ?_ _)); exact BK212.out⟩, ⟨by (with_reducible repeat (first | refine blk_drewN ?_ _ | refine blk_drew ?_ | refine blk_alloc ?_ _)); refine blk_put (cs := #[.int .i64 t214, .int .i64 t215, .int .i64 0]) ?_ 2 _ rfl; (with_reducible repeat (first | refine blk_drewN ?_ _ | refine blk_drew ?_ | refine blk_alloc ?_ _)); refine blk_put (cs := #[.int .i64 t214, .int .i64 0, .int .i64 0]) ?_ 1 _ rfl; (with_reducible repeat (first | refine blk_drewN ?_ _ | refine blk_drew ?_ | refine blk_alloc ?_ _)); refine blk_put (cs := #[.int .i64 0, .int .i64 0, .int .i64 0]) ?_ 0 _ rfl; (with_reducible repeat (first | refine blk_drewN ?_ _ | refine blk_drew ?_ | refine blk_alloc ?_ _)); exact BK218.out⟩, ⟨by repeat (first | (with_reducible first | exact HB.out | apply below_alloc | apply pw_below_drewN | apply below_drew1 | refine below_set ?_ GE212.out | refine below_set ?_ GE218.out) | exact HB.out)⟩⟩
    case rest =>
      clear HC6
      try clear c1
      try clear c2
      try clear p2
      try clear c4
      try clear c5
      try clear c10
      try clear c12
      try clear c14
      try clear c14b0
      try clear hcz13_0
      try clear hcz13_1
      try clear hcz13_2
      try clear hcz9_0
      try clear hcz9_1
      try clear hcz9_2
      try clear hfz13_0
      try clear hfz13_1
      try clear hfz13_2
      try clear hfz9_0
      try clear hfz9_1
      try clear hfz9_2
      obtain ⟨kq, x22_5, rfl, HA, HJ5, BK212, BK218, HB⟩ := hcut
      cases kq with
      | zero => exact absurd HA.out (by simp [stipendlaw03_DateMonths.j0])
      | succ kj5 =>
        have H := HA.out
        clear HA
        simp only [stipendlaw03_DateMonths.j0] at H
        by_cases c15 : x22_5 = true
        · subst c15
          have H1 : (if t217 = 30 then (some (t214 == 0 && (t215 == 0 && (t216 == 0)))) else (some false)) = some r := by rw [if_pos rfl] at H; exact H
          clear H
          have H := H1
          clear H1
          by_cases c16 : t217 = 30
          · rw [if_pos c16] at H
            have c16b0 : (t217 == 30) = true := beq_iff_eq.mpr c16
            have c16b1 : (t217 != 30) = false := bne_eq_false_iff_eq.mpr c16
            clear c16
            obtain rfl := Option.some.inj H
            have hnb17 := NB218_212.out
            have hnc17 := NB212_218.out
            have hcz18_0 : wc.cell? ⟨gb218, 0, none⟩ = some (.int .i64 t214) := (blk_cell BK218.out 0).trans rfl
            have hcz18_1 : wc.cell? ⟨gb218, 1, none⟩ = some (.int .i64 t215) := (blk_cell BK218.out 1).trans rfl
            have hcz18_2 : wc.cell? ⟨gb218, 2, none⟩ = some (.int .i64 t216) := (blk_cell BK218.out 2).trans rfl
            have hfz18_0 := blk_frozen BK218.out 0
            have hfz18_1 := blk_frozen BK218.out 1
            have hfz18_2 := blk_frozen BK218.out 2
            go_wp2
            go_ret
            exact ⟨by first | rfl | (simp [errW_none, errW_some] <;> rfl) | (simp [*, errW_none, errW_some] <;> rfl), by repeat (first | (with_reducible first | exact HB.out | apply below_alloc | apply pw_below_drewN | apply below_drew1 | refine below_set ?_ GE212.out | refine below_set ?_ GE218.out) | exact HB.out)⟩
          · rw [if_neg c16] at H
            have c16b0 : (t217 == 30) = false := beq_eq_false_iff_ne.mpr c16
            have c16b1 : (t217 != 30) = true := bne_iff_ne.mpr c16
            obtain rfl := Option.some.inj H
            go_wp2
            go_ret
            exact ⟨by first | rfl | (simp [errW_none, errW_some] <;> rfl) | (simp [*, errW_none, errW_some] <;> rfl), by repeat (first | (with_reducible first | exact HB.out | apply below_alloc | apply pw_below_drewN | apply below_drew1 | refine below_set ?_ GE212.out | refine below_set ?_ GE218.out) | exact HB.out)⟩
        · replace c15 := Bool.eq_false_iff.mpr c15
          subst c15
          have H1 : ((stipendref03_Months.f kj5 a0_0 a0_1 a0_2 a1).bind fun bt219 => (if bt219.2.2.2 = true then (if t217 = 0 then (some (t214 == bt219.1 && (t215 == bt219.2.1 && (t216 == bt219.2.2.1)))) else (some false)) else (if t217 = 30 then (some (t214 == 0 && (t215 == 0 && (t216 == 0)))) else (some false)))) = some r := by rw [if_neg (show ¬ (false = true) by decide)] at H; exact H
          clear H
          have H := H1
          clear H1
          replace H := Option.bind_eq_some_iff.mp H
          obtain ⟨⟨t219, t220, t221, t222⟩, A190, H⟩ := H
          replace H : (if t222 = true then (if t217 = 0 then (some (t214 == t219 && (t215 == t220 && (t216 == t221)))) else (some false)) else (if t217 = 30 then (some (t214 == 0 && (t215 == 0 && (t216 == 0)))) else (some false))) = some r := H
          have A19 := Aside0.mk A190
          clear A190
          by_cases c20 : t222 = true
          · subst c20
            have H1 : (if t217 = 0 then (some (t214 == t219 && (t215 == t220 && (t216 == t221)))) else (some false)) = some r := by rw [if_pos rfl] at H; exact H
            clear H
            have H := H1
            clear H1
            by_cases c21 : t217 = 0
            · rw [if_pos c21] at H
              have c21b0 : (t217 == 0) = true := beq_iff_eq.mpr c21
              have c21b1 : (t217 != 0) = false := bne_eq_false_iff_eq.mpr c21
              clear c21
              obtain rfl := Option.some.inj H
              have hnb22 := NB212_218.out
              have hnc22 := NB218_212.out
              have hcz23_0 : wc.cell? ⟨gb212, 0, none⟩ = some (.int .i64 a0_0) := (blk_cell BK212.out 0).trans rfl
              have hcz23_1 : wc.cell? ⟨gb212, 1, none⟩ = some (.int .i64 a0_1) := (blk_cell BK212.out 1).trans rfl
              have hcz23_2 : wc.cell? ⟨gb212, 2, none⟩ = some (.int .i64 a0_2) := (blk_cell BK212.out 2).trans rfl
              have hfz23_0 := blk_frozen BK212.out 0
              have hfz23_1 := blk_frozen BK212.out 1
              have hfz23_2 := blk_frozen BK212.out 2
              go_wp2_with (first | ((with_reducible refine gate_callee (f := 21) rfl ?_); refine goesL_ (some 33) rfl rfl Try.func21 (by kernel_rfl) rfl #[.agg #[.int .i64 a0_0, .int .i64 a0_1, .int .i64 a0_2], .int .i64 a1] rfl (by (try simp only [List.map_toArray, List.map_cons, List.map_nil]); first | done | rfl | (simp only [List.length_drop, List.length_take]; rfl)) ?_; (with_reducible refine (stipendref03_Months.calls kj5 a0_0 a0_1 a0_2 a1 t219 t220 t221 true _ A19.out).mono ?_); rintro e w24 ⟨rfl, hb⟩; refine ⟨_, rfl, ?_⟩; have n0_ := Aside0.mk (blk_below (g := gb212) (o := .cells #[.int .i64 a0_0, .int .i64 a0_1, .int .i64 a0_2] 23 (0, 0)) (by (with_reducible repeat (first | refine blk_drewN ?_ _ | refine blk_drew ?_ | refine blk_alloc ?_ _)); exact BK212.out) hb); have n1_ := Aside0.mk (blk_below (g := gb218) (o := .cells #[.int .i64 t214, .int .i64 t215, .int .i64 t216] 23 (0, 0)) (by (with_reducible repeat (first | refine blk_drewN ?_ _ | refine blk_drew ?_ | refine blk_alloc ?_ _)); exact BK218.out) hb); have n2_ := Aside0.mk (below_step (by repeat (first | (with_reducible first | exact HB.out | apply below_alloc | apply pw_below_drewN | apply below_drew1 | refine below_set ?_ GE212.out | refine below_set ?_ GE218.out) | exact HB.out)) hb); clear BK212; clear BK218; clear HB; have BK212 := n0_; have BK218 := n1_; have HB := n2_; clear n0_ n1_ n2_; (try clear hb); (try clear hb2); (try clear hk); (try clear hi)) | ((with_reducible refine gate_dst (N := 7) rfl ?_); refine box_event ?hg (N := 7) ?hd (cs := #[.int .i64 0, .int .i64 0, .int .i64 0]) (t := 23) ?hr ?_; (case hd => rfl); (case hg => rfl); (case hr => first | (go_simp; done) | (go_simp; rfl)); intro gb223 hg w25 hbox hb; have n0_ := Aside0.mk (blk_below (g := gb212) (o := .cells #[.int .i64 a0_0, .int .i64 a0_1, .int .i64 a0_2] 23 (0, 0)) (by (with_reducible repeat (first | refine blk_drewN ?_ _ | refine blk_drew ?_ | refine blk_alloc ?_ _)); exact BK212.out) hb); have n1_ := Aside0.mk (blk_below (g := gb218) (o := .cells #[.int .i64 t214, .int .i64 t215, .int .i64 t216] 23 (0, 0)) (by (with_reducible repeat (first | refine blk_drewN ?_ _ | refine blk_drew ?_ | refine blk_alloc ?_ _)); exact BK218.out) hb); have n2_ := Aside0.mk (below_step (by repeat (first | (with_reducible first | exact HB.out | apply below_alloc | apply pw_below_drewN | apply below_drew1 | refine below_set ?_ GE212.out | refine below_set ?_ GE218.out) | exact HB.out)) hb); have n3_ := Aside0.mk (hbox); have n4_ := Aside0.mk ((by rw [hg]; exact (below_size (by repeat (first | (with_reducible first | exact HB.out | apply below_alloc | apply pw_below_drewN | apply below_drew1 | refine below_set ?_ GE212.out | refine below_set ?_ GE218.out) | exact HB.out))) : w.heap.size ≤ gb223)); have n5_ := Aside0.mk ((by rw [hg]; exact (below_size (by repeat (first | (with_reducible first | exact HB.out | apply below_alloc | apply pw_below_drewN | apply below_drew1 | refine below_set ?_ GE212.out | refine below_set ?_ GE218.out) | exact HB.out))) : w.heap.size ≤ gb223)); have n6_ := Aside0.mk ((by rw [hg]; exact Nat.ne_of_lt (blk_lt (g := gb212) (o := .cells #[.int .i64 a0_0, .int .i64 a0_1, .int .i64 a0_2] 23 (0, 0)) (by (with_reducible repeat (first | refine blk_drewN ?_ _ | refine blk_drew ?_ | refine blk_alloc ?_ _)); exact BK212.out)) : gb212 ≠ gb223)); have n7_ := Aside0.mk ((by rw [hg]; exact Nat.ne_of_gt (blk_lt (g := gb212) (o := .cells #[.int .i64 a0_0, .int .i64 a0_1, .int .i64 a0_2] 23 (0, 0)) (by (with_reducible repeat (first | refine blk_drewN ?_ _ | refine blk_drew ?_ | refine blk_alloc ?_ _)); exact BK212.out)) : gb223 ≠ gb212)); have n8_ := Aside0.mk ((by rw [hg]; exact Nat.ne_of_lt (blk_lt (g := gb218) (o := .cells #[.int .i64 t214, .int .i64 t215, .int .i64 t216] 23 (0, 0)) (by (with_reducible repeat (first | refine blk_drewN ?_ _ | refine blk_drew ?_ | refine blk_alloc ?_ _)); exact BK218.out)) : gb218 ≠ gb223)); have n9_ := Aside0.mk ((by rw [hg]; exact Nat.ne_of_gt (blk_lt (g := gb218) (o := .cells #[.int .i64 t214, .int .i64 t215, .int .i64 t216] 23 (0, 0)) (by (with_reducible repeat (first | refine blk_drewN ?_ _ | refine blk_drew ?_ | refine blk_alloc ?_ _)); exact BK218.out)) : gb223 ≠ gb218)); clear BK212; clear BK218; clear HB; have BK212 := n0_; have BK218 := n1_; have HB := n2_; have BK223 := n3_; have GW223 := n4_; have GE223 := n5_; have NB212_223 := n6_; have NB223_212 := n7_; have NB218_223 := n8_; have NB223_218 := n9_; clear n0_ n1_ n2_ n3_ n4_ n5_ n6_ n7_ n8_ n9_; clear hb hbox hg; have hnb26 := NB223_212.out; have hnc26 := NB212_223.out; have hnb27 := NB223_218.out; have hnc27 := NB218_223.out; have hcz28_0 : w25.cell? ⟨gb223, 0, none⟩ = some (.int .i64 0) := (blk_cell BK223.out 0).trans rfl; have hcz28_1 : w25.cell? ⟨gb223, 1, none⟩ = some (.int .i64 0) := (blk_cell BK223.out 1).trans rfl; have hcz28_2 : w25.cell? ⟨gb223, 2, none⟩ = some (.int .i64 0) := (blk_cell BK223.out 2).trans rfl; have hfz28_0 := blk_frozen BK223.out 0; have hfz28_1 := blk_frozen BK223.out 1; have hfz28_2 := blk_frozen BK223.out 2; have hcz29_0 : w25.cell? ⟨gb218, 0, none⟩ = some (.int .i64 t214) := (blk_cell BK218.out 0).trans rfl; have hcz29_1 : w25.cell? ⟨gb218, 1, none⟩ = some (.int .i64 t215) := (blk_cell BK218.out 1).trans rfl; have hcz29_2 : w25.cell? ⟨gb218, 2, none⟩ = some (.int .i64 t216) := (blk_cell BK218.out 2).trans rfl; have hfz29_0 := blk_frozen BK218.out 0; have hfz29_1 := blk_frozen BK218.out 1; have hfz29_2 := blk_frozen BK218.out 2))
              go_ret
              exact ⟨by first | rfl | (simp [errW_none, errW_some] <;> rfl) | (simp [*, errW_none, errW_some] <;> rfl), by repeat (first | (with_reducible first | exact HB.out | apply below_alloc | apply pw_below_drewN | apply below_drew1 | refine below_set ?_ GE212.out | refine below_set ?_ GE218.out | refine below_set ?_ GE223.out) | exact HB.out)⟩
            · rw [if_neg c21] at H
              have c21b0 : (t217 == 0) = false := beq_eq_false_iff_ne.mpr c21
              have c21b1 : (t217 != 0) = true := bne_iff_ne.mpr c21
              obtain rfl := Option.some.inj H
              have hnb30 := NB212_218.out
              have hnc30 := NB218_212.out
              have hcz31_0 : wc.cell? ⟨gb212, 0, none⟩ = some (.int .i64 a0_0) := (blk_cell BK212.out 0).trans rfl
              have hcz31_1 : wc.cell? ⟨gb212, 1, none⟩ = some (.int .i64 a0_1) := (blk_cell BK212.out 1).trans rfl
              have hcz31_2 : wc.cell? ⟨gb212, 2, none⟩ = some (.int .i64 a0_2) := (blk_cell BK212.out 2).trans rfl
              have hfz31_0 := blk_frozen BK212.out 0
              have hfz31_1 := blk_frozen BK212.out 1
              have hfz31_2 := blk_frozen BK212.out 2
              go_wp2_with (first | ((with_reducible refine gate_callee (f := 21) rfl ?_); refine goesL_ (some 33) rfl rfl Try.func21 (by kernel_rfl) rfl #[.agg #[.int .i64 a0_0, .int .i64 a0_1, .int .i64 a0_2], .int .i64 a1] rfl (by (try simp only [List.map_toArray, List.map_cons, List.map_nil]); first | done | rfl | (simp only [List.length_drop, List.length_take]; rfl)) ?_; (with_reducible refine (stipendref03_Months.calls kj5 a0_0 a0_1 a0_2 a1 t219 t220 t221 true _ A19.out).mono ?_); rintro e w32 ⟨rfl, hb⟩; refine ⟨_, rfl, ?_⟩; have n0_ := Aside0.mk (blk_below (g := gb212) (o := .cells #[.int .i64 a0_0, .int .i64 a0_1, .int .i64 a0_2] 23 (0, 0)) (by (with_reducible repeat (first | refine blk_drewN ?_ _ | refine blk_drew ?_ | refine blk_alloc ?_ _)); exact BK212.out) hb); have n1_ := Aside0.mk (blk_below (g := gb218) (o := .cells #[.int .i64 t214, .int .i64 t215, .int .i64 t216] 23 (0, 0)) (by (with_reducible repeat (first | refine blk_drewN ?_ _ | refine blk_drew ?_ | refine blk_alloc ?_ _)); exact BK218.out) hb); have n2_ := Aside0.mk (below_step (by repeat (first | (with_reducible first | exact HB.out | apply below_alloc | apply pw_below_drewN | apply below_drew1 | refine below_set ?_ GE212.out | refine below_set ?_ GE218.out) | exact HB.out)) hb); clear BK212; clear BK218; clear HB; have BK212 := n0_; have BK218 := n1_; have HB := n2_; clear n0_ n1_ n2_; (try clear hb); (try clear hb2); (try clear hk); (try clear hi)) | ((with_reducible refine gate_dst (N := 7) rfl ?_); refine box_event ?hg (N := 7) ?hd (cs := #[.int .i64 0, .int .i64 0, .int .i64 0]) (t := 23) ?hr ?_; (case hd => rfl); (case hg => rfl); (case hr => first | (go_simp; done) | (go_simp; rfl)); intro gb223 hg w33 hbox hb; have n0_ := Aside0.mk (blk_below (g := gb212) (o := .cells #[.int .i64 a0_0, .int .i64 a0_1, .int .i64 a0_2] 23 (0, 0)) (by (with_reducible repeat (first | refine blk_drewN ?_ _ | refine blk_drew ?_ | refine blk_alloc ?_ _)); exact BK212.out) hb); have n1_ := Aside0.mk (blk_below (g := gb218) (o := .cells #[.int .i64 t214, .int .i64 t215, .int .i64 t216] 23 (0, 0)) (by (with_reducible repeat (first | refine blk_drewN ?_ _ | refine blk_drew ?_ | refine blk_alloc ?_ _)); exact BK218.out) hb); have n2_ := Aside0.mk (below_step (by repeat (first | (with_reducible first | exact HB.out | apply below_alloc | apply pw_below_drewN | apply below_drew1 | refine below_set ?_ GE212.out | refine below_set ?_ GE218.out) | exact HB.out)) hb); have n3_ := Aside0.mk (hbox); have n4_ := Aside0.mk ((by rw [hg]; exact (below_size (by repeat (first | (with_reducible first | exact HB.out | apply below_alloc | apply pw_below_drewN | apply below_drew1 | refine below_set ?_ GE212.out | refine below_set ?_ GE218.out) | exact HB.out))) : w.heap.size ≤ gb223)); have n5_ := Aside0.mk ((by rw [hg]; exact (below_size (by repeat (first | (with_reducible first | exact HB.out | apply below_alloc | apply pw_below_drewN | apply below_drew1 | refine below_set ?_ GE212.out | refine below_set ?_ GE218.out) | exact HB.out))) : w.heap.size ≤ gb223)); have n6_ := Aside0.mk ((by rw [hg]; exact Nat.ne_of_lt (blk_lt (g := gb212) (o := .cells #[.int .i64 a0_0, .int .i64 a0_1, .int .i64 a0_2] 23 (0, 0)) (by (with_reducible repeat (first | refine blk_drewN ?_ _ | refine blk_drew ?_ | refine blk_alloc ?_ _)); exact BK212.out)) : gb212 ≠ gb223)); have n7_ := Aside0.mk ((by rw [hg]; exact Nat.ne_of_gt (blk_lt (g := gb212) (o := .cells #[.int .i64 a0_0, .int .i64 a0_1, .int .i64 a0_2] 23 (0, 0)) (by (with_reducible repeat (first | refine blk_drewN ?_ _ | refine blk_drew ?_ | refine blk_alloc ?_ _)); exact BK212.out)) : gb223 ≠ gb212)); have n8_ := Aside0.mk ((by rw [hg]; exact Nat.ne_of_lt (blk_lt (g := gb218) (o := .cells #[.int .i64 t214, .int .i64 t215, .int .i64 t216] 23 (0, 0)) (by (with_reducible repeat (first | refine blk_drewN ?_ _ | refine blk_drew ?_ | refine blk_alloc ?_ _)); exact BK218.out)) : gb218 ≠ gb223)); have n9_ := Aside0.mk ((by rw [hg]; exact Nat.ne_of_gt (blk_lt (g := gb218) (o := .cells #[.int .i64 t214, .int .i64 t215, .int .i64 t216] 23 (0, 0)) (by (with_reducible repeat (first | refine blk_drewN ?_ _ | refine blk_drew ?_ | refine blk_alloc ?_ _)); exact BK218.out)) : gb223 ≠ gb218)); clear BK212; clear BK218; clear HB; have BK212 := n0_; have BK218 := n1_; have HB := n2_; have BK223 := n3_; have GW223 := n4_; have GE223 := n5_; have NB212_223 := n6_; have NB223_212 := n7_; have NB218_223 := n8_; have NB223_218 := n9_; clear n0_ n1_ n2_ n3_ n4_ n5_ n6_ n7_ n8_ n9_; clear hb hbox hg; have hnb34 := NB223_212.out; have hnc34 := NB212_223.out; have hnb35 := NB223_218.out; have hnc35 := NB218_223.out; have hcz36_0 : w33.cell? ⟨gb223, 0, none⟩ = some (.int .i64 0) := (blk_cell BK223.out 0).trans rfl; have hcz36_1 : w33.cell? ⟨gb223, 1, none⟩ = some (.int .i64 0) := (blk_cell BK223.out 1).trans rfl; have hcz36_2 : w33.cell? ⟨gb223, 2, none⟩ = some (.int .i64 0) := (blk_cell BK223.out 2).trans rfl; have hfz36_0 := blk_frozen BK223.out 0; have hfz36_1 := blk_frozen BK223.out 1; have hfz36_2 := blk_frozen BK223.out 2))
              go_ret
              exact ⟨by first | rfl | (simp [errW_none, errW_some] <;> rfl) | (simp [*, errW_none, errW_some] <;> rfl), by repeat (first | (with_reducible first | exact HB.out | apply below_alloc | apply pw_below_drewN | apply below_drew1 | refine below_set ?_ GE212.out | refine below_set ?_ GE218.out | refine below_set ?_ GE223.out) | exact HB.out)⟩
          · replace c20 := Bool.eq_false_iff.mpr c20
            subst c20
            have H1 : (if t217 = 30 then (some (t214 == 0 && (t215 == 0 && (t216 == 0)))) else (some false)) = some r := by rw [if_neg (show ¬ (false = true) by decide)] at H; exact H
            clear H
            have H := H1
            clear H1
            by_cases c37 : t217 = 30
            · rw [if_pos c37] at H
              have c37b0 : (t217 == 30) = true := beq_iff_eq.mpr c37
              have c37b1 : (t217 != 30) = false := bne_eq_false_iff_eq.mpr c37
              clear c37
              obtain rfl := Option.some.inj H
              have hnb38 := NB212_218.out
              have hnc38 := NB218_212.out
              have hcz39_0 : wc.cell? ⟨gb212, 0, none⟩ = some (.int .i64 a0_0) := (blk_cell BK212.out 0).trans rfl
              have hcz39_1 : wc.cell? ⟨gb212, 1, none⟩ = some (.int .i64 a0_1) := (blk_cell BK212.out 1).trans rfl
              have hcz39_2 : wc.cell? ⟨gb212, 2, none⟩ = some (.int .i64 a0_2) := (blk_cell BK212.out 2).trans rfl
              have hfz39_0 := blk_frozen BK212.out 0
              have hfz39_1 := blk_frozen BK212.out 1
              have hfz39_2 := blk_frozen BK212.out 2
              go_wp2_with (first | ((with_reducible refine gate_callee (f := 21) rfl ?_); refine goesL_ (some 33) rfl rfl Try.func21 (by kernel_rfl) rfl #[.agg #[.int .i64 a0_0, .int .i64 a0_1, .int .i64 a0_2], .int .i64 a1] rfl (by (try simp only [List.map_toArray, List.map_cons, List.map_nil]); first | done | rfl | (simp only [List.length_drop, List.length_take]; rfl)) ?_; (with_reducible refine (stipendref03_Months.calls kj5 a0_0 a0_1 a0_2 a1 t219 t220 t221 false _ A19.out).mono ?_); rintro e w40 ⟨rfl, hb⟩; refine ⟨_, rfl, ?_⟩; have n0_ := Aside0.mk (blk_below (g := gb212) (o := .cells #[.int .i64 a0_0, .int .i64 a0_1, .int .i64 a0_2] 23 (0, 0)) (by (with_reducible repeat (first | refine blk_drewN ?_ _ | refine blk_drew ?_ | refine blk_alloc ?_ _)); exact BK212.out) hb); have n1_ := Aside0.mk (blk_below (g := gb218) (o := .cells #[.int .i64 t214, .int .i64 t215, .int .i64 t216] 23 (0, 0)) (by (with_reducible repeat (first | refine blk_drewN ?_ _ | refine blk_drew ?_ | refine blk_alloc ?_ _)); exact BK218.out) hb); have n2_ := Aside0.mk (below_step (by repeat (first | (with_reducible first | exact HB.out | apply below_alloc | apply pw_below_drewN | apply below_drew1 | refine below_set ?_ GE212.out | refine below_set ?_ GE218.out) | exact HB.out)) hb); clear BK212; clear BK218; clear HB; have BK212 := n0_; have BK218 := n1_; have HB := n2_; clear n0_ n1_ n2_; (try clear hb); (try clear hb2); (try clear hk); (try clear hi)) | ((with_reducible refine gate_dst (N := 7) rfl ?_); refine box_event ?hg (N := 7) ?hd (cs := #[.int .i64 0, .int .i64 0, .int .i64 0]) (t := 23) ?hr ?_; (case hd => rfl); (case hg => rfl); (case hr => first | (go_simp; done) | (go_simp; rfl)); intro gb223 hg w41 hbox hb; have n0_ := Aside0.mk (blk_below (g := gb212) (o := .cells #[.int .i64 a0_0, .int .i64 a0_1, .int .i64 a0_2] 23 (0, 0)) (by (with_reducible repeat (first | refine blk_drewN ?_ _ | refine blk_drew ?_ | refine blk_alloc ?_ _)); exact BK212.out) hb); have n1_ := Aside0.mk (blk_below (g := gb218) (o := .cells #[.int .i64 t214, .int .i64 t215, .int .i64 t216] 23 (0, 0)) (by (with_reducible repeat (first | refine blk_drewN ?_ _ | refine blk_drew ?_ | refine blk_alloc ?_ _)); exact BK218.out) hb); have n2_ := Aside0.mk (below_step (by repeat (first | (with_reducible first | exact HB.out | apply below_alloc | apply pw_below_drewN | apply below_drew1 | refine below_set ?_ GE212.out | refine below_set ?_ GE218.out) | exact HB.out)) hb); have n3_ := Aside0.mk (hbox); have n4_ := Aside0.mk ((by rw [hg]; exact (below_size (by repeat (first | (with_reducible first | exact HB.out | apply below_alloc | apply pw_below_drewN | apply below_drew1 | refine below_set ?_ GE212.out | refine below_set ?_ GE218.out) | exact HB.out))) : w.heap.size ≤ gb223)); have n5_ := Aside0.mk ((by rw [hg]; exact (below_size (by repeat (first | (with_reducible first | exact HB.out | apply below_alloc | apply pw_below_drewN | apply below_drew1 | refine below_set ?_ GE212.out | refine below_set ?_ GE218.out) | exact HB.out))) : w.heap.size ≤ gb223)); have n6_ := Aside0.mk ((by rw [hg]; exact Nat.ne_of_lt (blk_lt (g := gb212) (o := .cells #[.int .i64 a0_0, .int .i64 a0_1, .int .i64 a0_2] 23 (0, 0)) (by (with_reducible repeat (first | refine blk_drewN ?_ _ | refine blk_drew ?_ | refine blk_alloc ?_ _)); exact BK212.out)) : gb212 ≠ gb223)); have n7_ := Aside0.mk ((by rw [hg]; exact Nat.ne_of_gt (blk_lt (g := gb212) (o := .cells #[.int .i64 a0_0, .int .i64 a0_1, .int .i64 a0_2] 23 (0, 0)) (by (with_reducible repeat (first | refine blk_drewN ?_ _ | refine blk_drew ?_ | refine blk_alloc ?_ _)); exact BK212.out)) : gb223 ≠ gb212)); have n8_ := Aside0.mk ((by rw [hg]; exact Nat.ne_of_lt (blk_lt (g := gb218) (o := .cells #[.int .i64 t214, .int .i64 t215, .int .i64 t216] 23 (0, 0)) (by (with_reducible repeat (first | refine blk_drewN ?_ _ | refine blk_drew ?_ | refine blk_alloc ?_ _)); exact BK218.out)) : gb218 ≠ gb223)); have n9_ := Aside0.mk ((by rw [hg]; exact Nat.ne_of_gt (blk_lt (g := gb218) (o := .cells #[.int .i64 t214, .int .i64 t215, .int .i64 t216] 23 (0, 0)) (by (with_reducible repeat (first | refine blk_drewN ?_ _ | refine blk_drew ?_ | refine blk_alloc ?_ _)); exact BK218.out)) : gb223 ≠ gb218)); clear BK212; clear BK218; clear HB; have BK212 := n0_; have BK218 := n1_; have HB := n2_; have BK223 := n3_; have GW223 := n4_; have GE223 := n5_; have NB212_223 := n6_; have NB223_212 := n7_; have NB218_223 := n8_; have NB223_218 := n9_; clear n0_ n1_ n2_ n3_ n4_ n5_ n6_ n7_ n8_ n9_; clear hb hbox hg; have hnb42 := NB223_212.out; have hnc42 := NB212_223.out; have hnb43 := NB223_218.out; have hnc43 := NB218_223.out; have hcz44_0 : w41.cell? ⟨gb223, 0, none⟩ = some (.int .i64 0) := (blk_cell BK223.out 0).trans rfl; have hcz44_1 : w41.cell? ⟨gb223, 1, none⟩ = some (.int .i64 0) := (blk_cell BK223.out 1).trans rfl; have hcz44_2 : w41.cell? ⟨gb223, 2, none⟩ = some (.int .i64 0) := (blk_cell BK223.out 2).trans rfl; have hfz44_0 := blk_frozen BK223.out 0; have hfz44_1 := blk_frozen BK223.out 1; have hfz44_2 := blk_frozen BK223.out 2; have hcz45_0 : w41.cell? ⟨gb218, 0, none⟩ = some (.int .i64 t214) := (blk_cell BK218.out 0).trans rfl; have hcz45_1 : w41.cell? ⟨gb218, 1, none⟩ = some (.int .i64 t215) := (blk_cell BK218.out 1).trans rfl; have hcz45_2 : w41.cell? ⟨gb218, 2, none⟩ = some (.int .i64 t216) := (blk_cell BK218.out 2).trans rfl; have hfz45_0 := blk_frozen BK218.out 0; have hfz45_1 := blk_frozen BK218.out 1; have hfz45_2 := blk_frozen BK218.out 2))
              go_ret
              exact ⟨by first | rfl | (simp [errW_none, errW_some] <;> rfl) | (simp [*, errW_none, errW_some] <;> rfl), by repeat (first | (with_reducible first | exact HB.out | apply below_alloc | apply pw_below_drewN | apply below_drew1 | refine below_set ?_ GE212.out | refine below_set ?_ GE218.out | refine below_set ?_ GE223.out) | exact HB.out)⟩
            · rw [if_neg c37] at H
              have c37b0 : (t217 == 30) = false := beq_eq_false_iff_ne.mpr c37
              have c37b1 : (t217 != 30) = true := bne_iff_ne.mpr c37
              obtain rfl := Option.some.inj H
              have hnb46 := NB212_218.out
              have hnc46 := NB218_212.out
              have hcz47_0 : wc.cell? ⟨gb212, 0, none⟩ = some (.int .i64 a0_0) := (blk_cell BK212.out 0).trans rfl
              have hcz47_1 : wc.cell? ⟨gb212, 1, none⟩ = some (.int .i64 a0_1) := (blk_cell BK212.out 1).trans rfl
              have hcz47_2 : wc.cell? ⟨gb212, 2, none⟩ = some (.int .i64 a0_2) := (blk_cell BK212.out 2).trans rfl
              have hfz47_0 := blk_frozen BK212.out 0
              have hfz47_1 := blk_frozen BK212.out 1
              have hfz47_2 := blk_frozen BK212.out 2
              go_wp2_with (first | ((with_reducible refine gate_callee (f := 21) rfl ?_); refine goesL_ (some 33) rfl rfl Try.func21 (by kernel_rfl) rfl #[.agg #[.int .i64 a0_0, .int .i64 a0_1, .int .i64 a0_2], .int .i64 a1] rfl (by (try simp only [List.map_toArray, List.map_cons, List.map_nil]); first | done | rfl | (simp only [List.length_drop, List.length_take]; rfl)) ?_; (with_reducible refine (stipendref03_Months.calls kj5 a0_0 a0_1 a0_2 a1 t219 t220 t221 false _ A19.out).mono ?_); rintro e w48 ⟨rfl, hb⟩; refine ⟨_, rfl, ?_⟩; have n0_ := Aside0.mk (blk_below (g := gb212) (o := .cells #[.int .i64 a0_0, .int .i64 a0_1, .int .i64 a0_2] 23 (0, 0)) (by (with_reducible repeat (first | refine blk_drewN ?_ _ | refine blk_drew ?_ | refine blk_alloc ?_ _)); exact BK212.out) hb); have n1_ := Aside0.mk (blk_below (g := gb218) (o := .cells #[.int .i64 t214, .int .i64 t215, .int .i64 t216] 23 (0, 0)) (by (with_reducible repeat (first | refine blk_drewN ?_ _ | refine blk_drew ?_ | refine blk_alloc ?_ _)); exact BK218.out) hb); have n2_ := Aside0.mk (below_step (by repeat (first | (with_reducible first | exact HB.out | apply below_alloc | apply pw_below_drewN | apply below_drew1 | refine below_set ?_ GE212.out | refine below_set ?_ GE218.out) | exact HB.out)) hb); clear BK212; clear BK218; clear HB; have BK212 := n0_; have BK218 := n1_; have HB := n2_; clear n0_ n1_ n2_; (try clear hb); (try clear hb2); (try clear hk); (try clear hi)) | ((with_reducible refine gate_dst (N := 7) rfl ?_); refine box_event ?hg (N := 7) ?hd (cs := #[.int .i64 0, .int .i64 0, .int .i64 0]) (t := 23) ?hr ?_; (case hd => rfl); (case hg => rfl); (case hr => first | (go_simp; done) | (go_simp; rfl)); intro gb223 hg w49 hbox hb; have n0_ := Aside0.mk (blk_below (g := gb212) (o := .cells #[.int .i64 a0_0, .int .i64 a0_1, .int .i64 a0_2] 23 (0, 0)) (by (with_reducible repeat (first | refine blk_drewN ?_ _ | refine blk_drew ?_ | refine blk_alloc ?_ _)); exact BK212.out) hb); have n1_ := Aside0.mk (blk_below (g := gb218) (o := .cells #[.int .i64 t214, .int .i64 t215, .int .i64 t216] 23 (0, 0)) (by (with_reducible repeat (first | refine blk_drewN ?_ _ | refine blk_drew ?_ | refine blk_alloc ?_ _)); exact BK218.out) hb); have n2_ := Aside0.mk (below_step (by repeat (first | (with_reducible first | exact HB.out | apply below_alloc | apply pw_below_drewN | apply below_drew1 | refine below_set ?_ GE212.out | refine below_set ?_ GE218.out) | exact HB.out)) hb); have n3_ := Aside0.mk (hbox); have n4_ := Aside0.mk ((by rw [hg]; exact (below_size (by repeat (first | (with_reducible first | exact HB.out | apply below_alloc | apply pw_below_drewN | apply below_drew1 | refine below_set ?_ GE212.out | refine below_set ?_ GE218.out) | exact HB.out))) : w.heap.size ≤ gb223)); have n5_ := Aside0.mk ((by rw [hg]; exact (below_size (by repeat (first | (with_reducible first | exact HB.out | apply below_alloc | apply pw_below_drewN | apply below_drew1 | refine below_set ?_ GE212.out | refine below_set ?_ GE218.out) | exact HB.out))) : w.heap.size ≤ gb223)); have n6_ := Aside0.mk ((by rw [hg]; exact Nat.ne_of_lt (blk_lt (g := gb212) (o := .cells #[.int .i64 a0_0, .int .i64 a0_1, .int .i64 a0_2] 23 (0, 0)) (by (with_reducible repeat (first | refine blk_drewN ?_ _ | refine blk_drew ?_ | refine blk_alloc ?_ _)); exact BK212.out)) : gb212 ≠ gb223)); have n7_ := Aside0.mk ((by rw [hg]; exact Nat.ne_of_gt (blk_lt (g := gb212) (o := .cells #[.int .i64 a0_0, .int .i64 a0_1, .int .i64 a0_2] 23 (0, 0)) (by (with_reducible repeat (first | refine blk_drewN ?_ _ | refine blk_drew ?_ | refine blk_alloc ?_ _)); exact BK212.out)) : gb223 ≠ gb212)); have n8_ := Aside0.mk ((by rw [hg]; exact Nat.ne_of_lt (blk_lt (g := gb218) (o := .cells #[.int .i64 t214, .int .i64 t215, .int .i64 t216] 23 (0, 0)) (by (with_reducible repeat (first | refine blk_drewN ?_ _ | refine blk_drew ?_ | refine blk_alloc ?_ _)); exact BK218.out)) : gb218 ≠ gb223)); have n9_ := Aside0.mk ((by rw [hg]; exact Nat.ne_of_gt (blk_lt (g := gb218) (o := .cells #[.int .i64 t214, .int .i64 t215, .int .i64 t216] 23 (0, 0)) (by (with_reducible repeat (first | refine blk_drewN ?_ _ | refine blk_drew ?_ | refine blk_alloc ?_ _)); exact BK218.out)) : gb223 ≠ gb218)); clear BK212; clear BK218; clear HB; have BK212 := n0_; have BK218 := n1_; have HB := n2_; have BK223 := n3_; have GW223 := n4_; have GE223 := n5_; have NB212_223 := n6_; have NB223_212 := n7_; have NB218_223 := n8_; have NB223_218 := n9_; clear n0_ n1_ n2_ n3_ n4_ n5_ n6_ n7_ n8_ n9_; clear hb hbox hg; have hnb50 := NB223_212.out; have hnc50 := NB212_223.out; have hnb51 := NB223_218.out; have hnc51 := NB218_223.out; have hcz52_0 : w49.cell? ⟨gb223, 0, none⟩ = some (.int .i64 0) := (blk_cell BK223.out 0).trans rfl; have hcz52_1 : w49.cell? ⟨gb223, 1, none⟩ = some (.int .i64 0) := (blk_cell BK223.out 1).trans rfl; have hcz52_2 : w49.cell? ⟨gb223, 2, none⟩ = some (.int .i64 0) := (blk_cell BK223.out 2).trans rfl; have hfz52_0 := blk_frozen BK223.out 0; have hfz52_1 := blk_frozen BK223.out 1; have hfz52_2 := blk_frozen BK223.out 2))
              go_ret
              exact ⟨by first | rfl | (simp [errW_none, errW_some] <;> rfl) | (simp [*, errW_none, errW_some] <;> rfl), by repeat (first | (with_reducible first | exact HB.out | apply below_alloc | apply pw_below_drewN | apply below_drew1 | refine below_set ?_ GE212.out | refine below_set ?_ GE218.out | refine below_set ?_ GE223.out) | exact HB.out)⟩
  · replace c4 := Bool.eq_false_iff.mpr c4
    subst c4
    have H1 : (some false) = some r := by rw [if_neg (show ¬ (false = true) by decide)] at H; exact H
    clear H
    have H := H1
    clear H1
    obtain rfl := Option.some.inj H
    go_enter Try.func5, Try.ntmps5
    go_wp2_with (first | ((with_reducible refine gate_dst (N := 2) rfl ?_); refine box_event ?hg (N := 2) ?hd (cs := #[.int .i64 a0_0, .int .i64 a0_1, .int .i64 a0_2]) (t := 23) ?hr ?_; (case hd => rfl); (case hg => rfl); (case hr => first | (go_simp; done) | (go_simp; rfl)); intro gb212 hg w53 hbox hb; have n0_ := Aside0.mk (below_step (by repeat (first | (with_reducible first | exact HB.out | apply below_alloc | apply pw_below_drewN | apply below_drew1) | exact HB.out)) hb); have n1_ := Aside0.mk (hbox); have n2_ := Aside0.mk ((by rw [hg]; exact (below_size (by repeat (first | (with_reducible first | exact HB.out | apply below_alloc | apply pw_below_drewN | apply below_drew1) | exact HB.out))) : w.heap.size ≤ gb212)); have n3_ := Aside0.mk ((by rw [hg]; exact (below_size (by repeat (first | (with_reducible first | exact HB.out | apply below_alloc | apply pw_below_drewN | apply below_drew1) | exact HB.out))) : w.heap.size ≤ gb212)); clear HB; have HB := n0_; have BK212 := n1_; have GW212 := n2_; have GE212 := n3_; clear n0_ n1_ n2_ n3_; clear hb hbox hg) | ((with_reducible refine gate_callee (f := 10) rfl ?_); refine goesL_ (some 9) rfl rfl Try.func10 (by kernel_rfl) rfl #[] rfl (by (try simp only [List.map_toArray, List.map_cons, List.map_nil]); first | done | rfl | (simp only [List.length_drop, List.length_take]; rfl)) ?_; (with_reducible refine (stipendlaw03_days.calls k  false _ A3.out).mono ?_); rintro e w54 ⟨rfl, hb⟩; refine ⟨_, rfl, ?_⟩; have n0_ := Aside0.mk (blk_below (g := gb212) (o := .cells #[.int .i64 a0_0, .int .i64 a0_1, .int .i64 a0_2] 23 (0, 0)) (by (with_reducible repeat (first | refine blk_drewN ?_ _ | refine blk_drew ?_ | refine blk_alloc ?_ _)); exact BK212.out) hb); have n1_ := Aside0.mk (below_step (by repeat (first | (with_reducible first | exact HB.out | apply below_alloc | apply pw_below_drewN | apply below_drew1 | refine below_set ?_ GE212.out) | exact HB.out)) hb); clear BK212; clear HB; have BK212 := n0_; have HB := n1_; clear n0_ n1_; (try clear hb); (try clear hb2); (try clear hk); (try clear hi)))
    go_ret
    exact ⟨by first | rfl | (simp [errW_none, errW_some] <;> rfl) | (simp [*, errW_none, errW_some] <;> rfl), by repeat (first | (with_reducible first | exact HB.out | apply below_alloc | apply pw_below_drewN | apply below_drew1 | refine below_set ?_ GE212.out) | exact HB.out)⟩

/-- THE ONE PURE STATEMENT of stipendlaw03_DateMonths: yours. -/
def stipendlaw03_DateMonths.Pure : Prop := ∀ (a0_0 : Int) (a0_1 : Int) (a0_2 : Int) (a1 : Int), (Lit.int .i64 a0_0).wf = true → (Lit.int .i64 a0_1).wf = true → (Lit.int .i64 a0_2).wf = true → (Lit.int .i64 a1).wf = true → ∃ k, stipendlaw03_DateMonths.f k a0_0 a0_1 a0_2 a1 = some true
theorem stipendlaw03_DateMonths.walk (P : stipendlaw03_DateMonths.Pure) (a0_0 : Int) (a0_1 : Int) (a0_2 : Int) (a1 : Int) (w : World) (w0_0 : (Lit.int .i64 a0_0).wf = true) (w0_1 : (Lit.int .i64 a0_1).wf = true) (w0_2 : (Lit.int .i64 a0_2).wf = true) (w1 : (Lit.int .i64 a1).wf = true) :
    Calls Try.prog 5 #[.agg #[.int .i64 a0_0, .int .i64 a0_1, .int .i64 a0_2], .int .i64 a1] w fun e w' => e = .returned (.bool true) ∧ Below w.heap.size w w' := by
  obtain ⟨k, h⟩ := P a0_0 a0_1 a0_2 a1 w0_0 w0_1 w0_2 w1
  refine (stipendlaw03_DateMonths.calls k a0_0 a0_1 a0_2 a1 true w h).mono ?_
  rintro e w' ⟨rfl, hd⟩
  exact ⟨rfl, hd⟩

/-! ### stipendlaw03_DateTexts: function 6 -/
theorem u8w_eq (x : Int) : IntKind.u8.wrap x = x % 256 := by simp [IntKind.wrap, IntKind.signed, IntKind.bits]
theorem agg3_eq {a b c a' b' c' : Int} (h1 : a = a') (h2 : b = b') (h3 : c = c') : #[Value.agg #[.int .i64 a, .int .i64 b, .int .i64 c]] = #[Value.agg #[.int .i64 a', .int .i64 b', .int .i64 c']] := by rw [h1, h2, h3]
theorem d4_eq (a b c d : Int) : wrap64 (wrap64 (wrap64 (wrap64 (wrap64 (IntKind.u8.wrap a) * 1000) + wrap64 (wrap64 (IntKind.u8.wrap b) * 100)) + wrap64 (wrap64 (IntKind.u8.wrap c) * 10)) + wrap64 (IntKind.u8.wrap d)) = a % 256 * 1000 + b % 256 * 100 + c % 256 * 10 + d % 256 := by
  simp only [u8w_eq]
  unfold wrap64
  omega
theorem d2_eq (a b : Int) : wrap64 (wrap64 (wrap64 (IntKind.u8.wrap a) * 10) + wrap64 (IntKind.u8.wrap b)) = a % 256 * 10 + b % 256 := by
  simp only [u8w_eq]
  unfold wrap64
  omega
mutual
def stipendlaw03_DateTexts.l0 : Nat → ByteArray → Int → Bool → Int → Int → Int → Int → Int → Int → Int → Option (Bool)
  | 0, _, _, _, _, _, _, _, _, _, _ => none
  | k + 1, x0, x6, x7, x8, x225000, x225001, x225002, x231000, x231001, x231002 => if x7 = true then (stipendlaw03_DateTexts.j1 k x0 x6 x7 x8 (decide (x8 < 10)) x225000 x225001 x225002 x231000 x231001 x231002) else (stipendlaw03_DateTexts.j1 k x0 x6 x7 x8 false x225000 x225001 x225002 x231000 x231001 x231002)
def stipendlaw03_DateTexts.j1 : Nat → ByteArray → Int → Bool → Int → Bool → Int → Int → Int → Int → Int → Int → Option (Bool)
  | 0, _, _, _, _, _, _, _, _, _, _, _ => none
  | k + 1, x0, x6, x7, x8, x29, x225000, x225001, x225002, x231000, x231001, x231002 => if x29 = true then (if x8 = 4 then (if 0 ≤ x8 then (if x8 < (x0.size : Int) then (stipendlaw03_DateTexts.l0 k x0 x6 ((bt x0 x8) == 45) (wrap64 (x8 + 1)) x225000 x225001 x225002 x231000 x231001 x231002) else (none)) else (none)) else (if x8 = 7 then (if 0 ≤ x8 then (if x8 < (x0.size : Int) then (stipendlaw03_DateTexts.l0 k x0 x6 ((bt x0 x8) == 45) (wrap64 (x8 + 1)) x225000 x225001 x225002 x231000 x231001 x231002) else (none)) else (none)) else (if 0 ≤ x8 then (if x8 < (x0.size : Int) then (if (bt x0 x8) ≥ 48 then (stipendlaw03_DateTexts.l0 k x0 x6 (decide ((bt x0 x8) ≤ 57)) (wrap64 (x8 + 1)) x225000 x225001 x225002 x231000 x231001 x231002) else (stipendlaw03_DateTexts.l0 k x0 x6 false (wrap64 (x8 + 1)) x225000 x225001 x225002 x231000 x231001 x231002)) else (none)) else (none)))) else (if x7 = true then (if x6 = 0 then ((date_Text.f k x231000 x231001 x231002).bind fun t231 => (if t231.toList = x0.toList then ((stipendref03_Right.f x231000 x231001 x231002).bind fun t232 => (if t232 = true then (stipendlaw03_DateTexts.j2 k x225000 x225001 x225002) else (some false))) else (some false))) else (if 0 < (x0.size : Int) then (if 1 < (x0.size : Int) then (if 2 < (x0.size : Int) then (if 3 < (x0.size : Int) then (if x6 = 30 then (if (!(x231000 == 0) || (!(x231001 == 0) || (!(x231002 == 0)))) = true then (some false) else (if 5 < (x0.size : Int) then (if 6 < (x0.size : Int) then (if 8 < (x0.size : Int) then (if 9 < (x0.size : Int) then ((stipendref03_Right.f (((((((bt x0 0) - 48) % 256) * 1000) + ((((bt x0 1) - 48) % 256) * 100)) + ((((bt x0 2) - 48) % 256) * 10)) + (((bt x0 3) - 48) % 256)) (((((bt x0 5) - 48) % 256) * 10) + (((bt x0 6) - 48) % 256)) (((((bt x0 8) - 48) % 256) * 10) + (((bt x0 9) - 48) % 256))).bind fun t233 => (if t233 = true then (some false) else (stipendlaw03_DateTexts.j2 k x225000 x225001 x225002))) else (none)) else (none)) else (none)) else (none))) else (some false)) else (none)) else (none)) else (none)) else (none))) else (if x6 = 5 then (if (!(x231000 == 0) || (!(x231001 == 0) || (!(x231002 == 0)))) = true then (some false) else (stipendlaw03_DateTexts.j2 k x225000 x225001 x225002)) else (some false)))
def stipendlaw03_DateTexts.j2 : Nat → Int → Int → Int → Option (Bool)
  | 0, _, _, _ => none
  | k + 1, x225000, x225001, x225002 => (stipendref03_Right.f x225000 x225001 x225002).bind fun t234 => (if t234 = true then ((date_Text.f k x225000 x225001 x225002).bind fun t235 => ((date_Parse.f k t235).bind fun bt236 => (if bt236.2.2.2 = 0 then (some (bt236.1 == x225000 && (bt236.2.1 == x225001 && (bt236.2.2.1 == x225002)))) else (some false)))) else (some true))
end
def stipendlaw03_DateTexts.f (k : Nat) (a0 : ByteArray) (a1_0 : Int) (a1_1 : Int) (a1_2 : Int) : Option (Bool) := (stipendlaw03_days.f k).bind fun t225 => (if t225 = true then (if (a0.size : Int) > 60 then (some true) else ((date_Parse.f k a0).bind fun bt226 => (stipendlaw03_DateTexts.l0 k a0 bt226.2.2.2 ((a0.size : Int) == 10) 0 a1_0 a1_1 a1_2 bt226.1 bt226.2.1 bt226.2.2.1))) else (some false))
theorem stipendlaw03_DateTexts.mono_l : ∀ k, (∀ y0 y1 y2 y3 y4 y5 y6 y7 y8 y9, LeO (stipendlaw03_DateTexts.l0 k y0 y1 y2 y3 y4 y5 y6 y7 y8 y9) (stipendlaw03_DateTexts.l0 (k + 1) y0 y1 y2 y3 y4 y5 y6 y7 y8 y9)) ∧ (∀ y0 y1 y2 y3 y4 y5 y6 y7 y8 y9 y10, LeO (stipendlaw03_DateTexts.j1 k y0 y1 y2 y3 y4 y5 y6 y7 y8 y9 y10) (stipendlaw03_DateTexts.j1 (k + 1) y0 y1 y2 y3 y4 y5 y6 y7 y8 y9 y10)) ∧ (∀ y0 y1 y2, LeO (stipendlaw03_DateTexts.j2 k y0 y1 y2) (stipendlaw03_DateTexts.j2 (k + 1) y0 y1 y2))
  | 0 => ⟨fun _ _ _ _ _ _ _ _ _ _ r h => by simp [stipendlaw03_DateTexts.l0] at h, fun _ _ _ _ _ _ _ _ _ _ _ r h => by simp [stipendlaw03_DateTexts.j1] at h, fun _ _ _ r h => by simp [stipendlaw03_DateTexts.j2] at h⟩
  | k + 1 => by
    obtain ⟨ih0, ih1, ih2⟩ := stipendlaw03_DateTexts.mono_l k
    refine ⟨?_, ?_, ?_⟩
    · intro y0 y1 y2 y3 y4 y5 y6 y7 y8 y9
      unfold stipendlaw03_DateTexts.l0
      repeat' first
      | (with_reducible exact ih0 _ _ _ _ _ _ _ _ _ _)
      | (with_reducible exact ih1 _ _ _ _ _ _ _ _ _ _ _)
      | (with_reducible exact ih2 _ _ _)
      | (with_reducible exact date_Parse.mono _ _)
      | (with_reducible exact date_Text.mono _ _ _ _)
      | (with_reducible exact stipendlaw03_days.mono _)
      | (with_reducible exact LeO.refl _)
      | (with_reducible exact LeO.none _)
      | (with_reducible refine LeO.ite ?_ ?_)
      | (with_reducible refine LeO.bind ?_ (fun _ => ?_))
      | exact ih0 _ _ _ _ _ _ _ _ _ _
      | exact ih1 _ _ _ _ _ _ _ _ _ _ _
      | exact ih2 _ _ _
      | exact date_Parse.mono _ _
      | exact date_Text.mono _ _ _ _
      | exact stipendlaw03_days.mono _
      | exact LeO.none _
      | refine LeO.ite ?_ ?_
      | refine LeO.bind ?_ (fun _ => ?_)
    · intro y0 y1 y2 y3 y4 y5 y6 y7 y8 y9 y10
      unfold stipendlaw03_DateTexts.j1
      repeat' first
      | (with_reducible exact ih0 _ _ _ _ _ _ _ _ _ _)
      | (with_reducible exact ih1 _ _ _ _ _ _ _ _ _ _ _)
      | (with_reducible exact ih2 _ _ _)
      | (with_reducible exact date_Parse.mono _ _)
      | (with_reducible exact date_Text.mono _ _ _ _)
      | (with_reducible exact stipendlaw03_days.mono _)
      | (with_reducible exact LeO.refl _)
      | (with_reducible exact LeO.none _)
      | (with_reducible refine LeO.ite ?_ ?_)
      | (with_reducible refine LeO.bind ?_ (fun _ => ?_))
      | exact ih0 _ _ _ _ _ _ _ _ _ _
      | exact ih1 _ _ _ _ _ _ _ _ _ _ _
      | exact ih2 _ _ _
      | exact date_Parse.mono _ _
      | exact date_Text.mono _ _ _ _
      | exact stipendlaw03_days.mono _
      | exact LeO.none _
      | refine LeO.ite ?_ ?_
      | refine LeO.bind ?_ (fun _ => ?_)
    · intro y0 y1 y2
      unfold stipendlaw03_DateTexts.j2
      repeat' first
      | (with_reducible exact ih0 _ _ _ _ _ _ _ _ _ _)
      | (with_reducible exact ih1 _ _ _ _ _ _ _ _ _ _ _)
      | (with_reducible exact ih2 _ _ _)
      | (with_reducible exact date_Parse.mono _ _)
      | (with_reducible exact date_Text.mono _ _ _ _)
      | (with_reducible exact stipendlaw03_days.mono _)
      | (with_reducible exact LeO.refl _)
      | (with_reducible exact LeO.none _)
      | (with_reducible refine LeO.ite ?_ ?_)
      | (with_reducible refine LeO.bind ?_ (fun _ => ?_))
      | exact ih0 _ _ _ _ _ _ _ _ _ _
      | exact ih1 _ _ _ _ _ _ _ _ _ _ _
      | exact ih2 _ _ _
      | exact date_Parse.mono _ _
      | exact date_Text.mono _ _ _ _
      | exact stipendlaw03_days.mono _
      | exact LeO.none _
      | refine LeO.ite ?_ ?_
      | refine LeO.bind ?_ (fun _ => ?_)
theorem stipendlaw03_DateTexts.mono : ∀ a0 a1 a2 a3 k, LeO (stipendlaw03_DateTexts.f k a0 a1 a2 a3) (stipendlaw03_DateTexts.f (k + 1) a0 a1 a2 a3) := by
  intro a0 a1 a2 a3 k
  obtain ⟨ih0, ih1, ih2⟩ := stipendlaw03_DateTexts.mono_l k
  unfold stipendlaw03_DateTexts.f
  repeat' first
      | (with_reducible exact ih0 _ _ _ _ _ _ _ _ _ _)
      | (with_reducible exact ih1 _ _ _ _ _ _ _ _ _ _ _)
      | (with_reducible exact ih2 _ _ _)
      | (with_reducible exact date_Parse.mono _ _)
      | (with_reducible exact date_Text.mono _ _ _ _)
      | (with_reducible exact stipendlaw03_days.mono _)
      | (with_reducible exact LeO.refl _)
      | (with_reducible exact LeO.none _)
      | (with_reducible refine LeO.ite ?_ ?_)
      | (with_reducible refine LeO.bind ?_ (fun _ => ?_))
      | exact ih0 _ _ _ _ _ _ _ _ _ _
      | exact ih1 _ _ _ _ _ _ _ _ _ _ _
      | exact ih2 _ _ _
      | exact date_Parse.mono _ _
      | exact date_Text.mono _ _ _ _
      | exact stipendlaw03_days.mono _
      | exact LeO.none _
      | refine LeO.ite ?_ ?_
      | refine LeO.bind ?_ (fun _ => ?_)
def stipendlaw03_DateTexts.T13 : Bool × List (List Nat × List Nat) := (true, [([], []), ([0], [0]), ([1], [1]), ([2], [2]), ([3], [3]), ([], []), ([5], [5]), ([6], [6]), ([7], [7]), ([8], [8]), ([4, 9], [4, 9]), ([], []), ([11], [11]), ([12], [12]), ([13], [13]), ([14], [14]), ([10, 15], [10, 15]), ([], []), ([17], [17]), ([18], [18]), ([19], [19]), ([16, 20], [16, 20]), ([21, 0, 1, 2, 3, 4, 5, 6, 7, 8, 9, 10, 11, 12, 13, 14, 15, 16, 17, 18, 19, 20, 21], [21])])
def stipendlaw03_DateTexts.B13 : List Nat := [0, 1, 3, 7, 15, 0, 32, 96, 224, 480, 1023, 0, 2048, 6144, 14336, 30720, 65535, 0, 131072, 393216, 917504, 2097151, 4194303]
theorem stipendlaw03_DateTexts.tab13 : rtab .any (opsOf Try.f6 13) = stipendlaw03_DateTexts.T13 := by kernel_rfl
theorem stipendlaw03_DateTexts.bits13 : waitsOk stipendlaw03_DateTexts.T13.2 stipendlaw03_DateTexts.B13 = true := by kernel_rfl
def stipendlaw03_DateTexts.T14 : Bool × List (List Nat × List Nat) := (true, [([], []), ([0], [0]), ([1], [1]), ([2], [2]), ([2], [2]), ([3, 4, 2], [2, 3, 4]), ([2, 5], [2, 5]), ([6, 2], [6]), ([7], [7]), ([7], [7]), ([9, 7], [7, 9]), ([10, 7], [7, 10]), ([11, 7], [7, 11]), ([12, 7], [7, 12]), ([7], [7]), ([14, 7], [7, 14]), ([15, 7], [7, 15]), ([16, 7], [7, 16]), ([13, 17, 7], [7, 13, 17]), ([7], [7]), ([19, 7], [7, 19]), ([20, 7], [7, 20]), ([21, 7], [7, 21]), ([22, 7], [7, 22]), ([7], [7]), ([24, 7], [7, 24]), ([25, 7], [7, 25]), ([26, 7], [7, 26]), ([23, 27, 7], [7, 23, 27]), ([8, 18, 28, 7], [7, 8, 18, 28]), ([29, 7, 7], [7, 29]), ([7, 30], [7, 30])])
def stipendlaw03_DateTexts.B14 : List Nat := [0, 1, 3, 7, 7, 31, 63, 127, 255, 255, 767, 1791, 3839, 7935, 255, 16639, 49407, 114943, 261887, 255, 524543, 1573119, 3670271, 7864575, 255, 16777471, 50331903, 117440767, 267911423, 536870911, 1073741823, 2147483647]
theorem stipendlaw03_DateTexts.tab14 : rtab .any (opsOf Try.f6 14) = stipendlaw03_DateTexts.T14 := by kernel_rfl
theorem stipendlaw03_DateTexts.bits14 : waitsOk stipendlaw03_DateTexts.T14.2 stipendlaw03_DateTexts.B14 = true := by kernel_rfl

end Go.Proofs.Ythfkfageehkhcaa.X
