-- laid by the session's own program (xprint.py) out of Lean's print of the program; Lean checks it
import Derived.Test.YtfiomckebicphaaX0
import Derived.Test.YtfiomckebicphaaXfracCompare
import Derived.Test.YtfiomckebicphaaXfracLowest
import Derived.Test.YtfiomckebicphaaXstipendlaw02parts
import Derived.Test.YtfiomckebicphaaXstipendlaw02great
namespace Go.Proofs.Ytfiomckebicphaa.X
open Go.RowKit Go.Proofs.YtfiomckebicphaaW.PrintWords Go.Proofs.YtfiomckebicphaaW.PrintLast Go.Proofs.YtfiomckebicphaaW.PrintMore
attribute [local go_sem] max2_int min2_int max_two min_two max_three min_three max_four min_four   -- for this text's walks alone
set_option linter.unusedVariables false
set_option linter.unusedSimpArgs false

/-! ### stipendlaw02_FracCompares: function 11 -/
mutual
def stipendlaw02_FracCompares.j0 : Nat → Int → Int → Bool → Int → Int → Int → Int → Int → Int → Option (Bool)
  | 0, _, _, _, _, _, _, _, _, _ => none
  | k + 1, x7, x8, x46, x172000, x172001, x173000, x173001, x174000, x174001 => if x46 = true then (if x8 = 1 then (some (x7 == 0)) else (some false)) else ((frac_Compare.f k x173000 x173001 x172000 x172001).bind fun bt177 => ((frac_Lowest.f k x172000 x172001).bind fun bt179 => ((frac_Lowest.f k x173000 x173001).bind fun bt182 => (if (wrap64 ((wrap64 ((wrap64 (x8 + bt177.2)) + bt179.2.2)) + bt182.2.2)) = 0 then (if x7 = (wrap64 (-bt177.1)) then (if x7 < (-1) then (stipendlaw02_FracCompares.j1 k x7 bt179.1 bt179.2.1 true x172000 x172001 x173000 x173001 x174000 x174001) else (if x7 > 1 then (stipendlaw02_FracCompares.j1 k x7 bt179.1 bt179.2.1 true x172000 x172001 x173000 x173001 x174000 x174001) else (if bt179.2.1 < 1 then (stipendlaw02_FracCompares.j1 k x7 bt179.1 bt179.2.1 true x172000 x172001 x173000 x173001 x174000 x174001) else (if bt182.2.1 < 1 then (stipendlaw02_FracCompares.j1 k x7 bt179.1 bt179.2.1 true x172000 x172001 x173000 x173001 x174000 x174001) else (if bt179.1 = bt182.1 then (stipendlaw02_FracCompares.j1 k x7 bt179.1 bt179.2.1 ((x7 == 0) != (bt179.2.1 == bt182.2.1)) x172000 x172001 x173000 x173001 x174000 x174001) else (stipendlaw02_FracCompares.j1 k x7 bt179.1 bt179.2.1 ((x7 == 0) != false) x172000 x172001 x173000 x173001 x174000 x174001)))))) else (stipendlaw02_FracCompares.j1 k x7 bt179.1 bt179.2.1 true x172000 x172001 x173000 x173001 x174000 x174001)) else (stipendlaw02_FracCompares.j1 k x7 bt179.1 bt179.2.1 true x172000 x172001 x173000 x173001 x174000 x174001)))))
def stipendlaw02_FracCompares.j1 : Nat → Int → Int → Int → Bool → Int → Int → Int → Int → Int → Int → Option (Bool)
  | 0, _, _, _, _, _, _, _, _, _, _ => none
  | k + 1, x7, x11, x12, x125, x172000, x172001, x173000, x173001, x174000, x174001 => if x125 = true then (some false) else ((frac_Compare.f k x11 x12 x172000 x172001).bind fun bt185 => (if bt185.1 = 0 then ((stipendlaw02_great.f x172000).bind fun t187 => (if t187 = true then (stipendlaw02_FracCompares.j2 k x7 false x172000 x172001 x173000 x173001 x174000 x174001) else ((stipendlaw02_great.f x173000).bind fun t188 => (if t188 = true then (stipendlaw02_FracCompares.j2 k x7 false x172000 x172001 x173000 x173001 x174000 x174001) else (if x172001 < 1048576 then (if x173001 < 1048576 then (if x172000 < 1099511627776 then (if x172000 > (-1099511627776) then (if x173000 < 1099511627776 then (stipendlaw02_FracCompares.j2 k x7 (decide (x173000 > (-1099511627776))) x172000 x172001 x173000 x173001 x174000 x174001) else (stipendlaw02_FracCompares.j2 k x7 false x172000 x172001 x173000 x173001 x174000 x174001)) else (stipendlaw02_FracCompares.j2 k x7 false x172000 x172001 x173000 x173001 x174000 x174001)) else (stipendlaw02_FracCompares.j2 k x7 false x172000 x172001 x173000 x173001 x174000 x174001)) else (stipendlaw02_FracCompares.j2 k x7 false x172000 x172001 x173000 x173001 x174000 x174001)) else (stipendlaw02_FracCompares.j2 k x7 false x172000 x172001 x173000 x173001 x174000 x174001)))))) else (some false)))
def stipendlaw02_FracCompares.j2 : Nat → Int → Bool → Int → Int → Int → Int → Int → Int → Option (Bool)
  | 0, _, _, _, _, _, _, _, _ => none
  | k + 1, x7, x177, x172000, x172001, x173000, x173001, x174000, x174001 => if x177 = true then (if ((decide (x7 < 0)) != (decide ((wrap64 (x172000 * x173001)) < (wrap64 (x173000 * x172001))))) = true then (stipendlaw02_FracCompares.j3 k x7 true x172000 x172001 x173000 x173001 x174000 x174001) else (stipendlaw02_FracCompares.j3 k x7 ((decide (x7 > 0)) != (decide ((wrap64 (x172000 * x173001)) > (wrap64 (x173000 * x172001))))) x172000 x172001 x173000 x173001 x174000 x174001)) else ((frac_Compare.f k x173000 x173001 x174000 x174001).bind fun bt193 => ((frac_Compare.f k x172000 x172001 x174000 x174001).bind fun bt195 => (if bt193.2 = 0 then (if x7 < 0 then (if bt193.1 < 0 then (some (decide (bt195.1 < 0))) else (some true)) else (some true)) else (some true))))
def stipendlaw02_FracCompares.j3 : Nat → Int → Bool → Int → Int → Int → Int → Int → Int → Option (Bool)
  | 0, _, _, _, _, _, _, _, _ => none
  | k + 1, x7, x201, x172000, x172001, x173000, x173001, x174000, x174001 => if x201 = true then (some false) else ((frac_Compare.f k x173000 x173001 x174000 x174001).bind fun bt189 => ((frac_Compare.f k x172000 x172001 x174000 x174001).bind fun bt191 => (if bt189.2 = 0 then (if x7 < 0 then (if bt189.1 < 0 then (some (decide (bt191.1 < 0))) else (some true)) else (some true)) else (some true))))
end
def stipendlaw02_FracCompares.f (k : Nat) (a0_0 : Int) (a0_1 : Int) (a1_0 : Int) (a1_1 : Int) (a2_0 : Int) (a2_1 : Int) : Option (Bool) := (stipendlaw02_parts.f k).bind fun t174 => (if t174 = true then ((frac_Compare.f k a0_0 a0_1 a1_0 a1_1).bind fun bt175 => (if a0_1 ≤ 0 then (stipendlaw02_FracCompares.j0 k bt175.1 bt175.2 true a0_0 a0_1 a1_0 a1_1 a2_0 a2_1) else (stipendlaw02_FracCompares.j0 k bt175.1 bt175.2 (decide (a1_1 ≤ 0)) a0_0 a0_1 a1_0 a1_1 a2_0 a2_1))) else (some false))
theorem stipendlaw02_FracCompares.mono_l : ∀ k, (∀ y0 y1 y2 y3 y4 y5 y6 y7 y8, LeO (stipendlaw02_FracCompares.j0 k y0 y1 y2 y3 y4 y5 y6 y7 y8) (stipendlaw02_FracCompares.j0 (k + 1) y0 y1 y2 y3 y4 y5 y6 y7 y8)) ∧ (∀ y0 y1 y2 y3 y4 y5 y6 y7 y8 y9, LeO (stipendlaw02_FracCompares.j1 k y0 y1 y2 y3 y4 y5 y6 y7 y8 y9) (stipendlaw02_FracCompares.j1 (k + 1) y0 y1 y2 y3 y4 y5 y6 y7 y8 y9)) ∧ (∀ y0 y1 y2 y3 y4 y5 y6 y7, LeO (stipendlaw02_FracCompares.j2 k y0 y1 y2 y3 y4 y5 y6 y7) (stipendlaw02_FracCompares.j2 (k + 1) y0 y1 y2 y3 y4 y5 y6 y7)) ∧ (∀ y0 y1 y2 y3 y4 y5 y6 y7, LeO (stipendlaw02_FracCompares.j3 k y0 y1 y2 y3 y4 y5 y6 y7) (stipendlaw02_FracCompares.j3 (k + 1) y0 y1 y2 y3 y4 y5 y6 y7))
  | 0 => ⟨fun _ _ _ _ _ _ _ _ _ r h => by simp [stipendlaw02_FracCompares.j0] at h, fun _ _ _ _ _ _ _ _ _ _ r h => by simp [stipendlaw02_FracCompares.j1] at h, fun _ _ _ _ _ _ _ _ r h => by simp [stipendlaw02_FracCompares.j2] at h, fun _ _ _ _ _ _ _ _ r h => by simp [stipendlaw02_FracCompares.j3] at h⟩
  | k + 1 => by
    obtain ⟨ih0, ih1, ih2, ih3⟩ := stipendlaw02_FracCompares.mono_l k
    refine ⟨?_, ?_, ?_, ?_⟩
    · intro y0 y1 y2 y3 y4 y5 y6 y7 y8
      unfold stipendlaw02_FracCompares.j0
      repeat' first
      | (with_reducible exact ih0 _ _ _ _ _ _ _ _ _)
      | (with_reducible exact ih1 _ _ _ _ _ _ _ _ _ _)
      | (with_reducible exact ih2 _ _ _ _ _ _ _ _)
      | (with_reducible exact ih3 _ _ _ _ _ _ _ _)
      | (with_reducible exact frac_Compare.mono _ _ _ _ _)
      | (with_reducible exact frac_Lowest.mono _ _ _)
      | (with_reducible exact stipendlaw02_parts.mono _)
      | (with_reducible exact LeO.refl _)
      | (with_reducible exact LeO.none _)
      | (with_reducible refine LeO.ite ?_ ?_)
      | (with_reducible refine LeO.bind ?_ (fun _ => ?_))
      | exact ih0 _ _ _ _ _ _ _ _ _
      | exact ih1 _ _ _ _ _ _ _ _ _ _
      | exact ih2 _ _ _ _ _ _ _ _
      | exact ih3 _ _ _ _ _ _ _ _
      | exact frac_Compare.mono _ _ _ _ _
      | exact frac_Lowest.mono _ _ _
      | exact stipendlaw02_parts.mono _
      | exact LeO.none _
      | refine LeO.ite ?_ ?_
      | refine LeO.bind ?_ (fun _ => ?_)
    · intro y0 y1 y2 y3 y4 y5 y6 y7 y8 y9
      unfold stipendlaw02_FracCompares.j1
      repeat' first
      | (with_reducible exact ih0 _ _ _ _ _ _ _ _ _)
      | (with_reducible exact ih1 _ _ _ _ _ _ _ _ _ _)
      | (with_reducible exact ih2 _ _ _ _ _ _ _ _)
      | (with_reducible exact ih3 _ _ _ _ _ _ _ _)
      | (with_reducible exact frac_Compare.mono _ _ _ _ _)
      | (with_reducible exact frac_Lowest.mono _ _ _)
      | (with_reducible exact stipendlaw02_parts.mono _)
      | (with_reducible exact LeO.refl _)
      | (with_reducible exact LeO.none _)
      | (with_reducible refine LeO.ite ?_ ?_)
      | (with_reducible refine LeO.bind ?_ (fun _ => ?_))
      | exact ih0 _ _ _ _ _ _ _ _ _
      | exact ih1 _ _ _ _ _ _ _ _ _ _
      | exact ih2 _ _ _ _ _ _ _ _
      | exact ih3 _ _ _ _ _ _ _ _
      | exact frac_Compare.mono _ _ _ _ _
      | exact frac_Lowest.mono _ _ _
      | exact stipendlaw02_parts.mono _
      | exact LeO.none _
      | refine LeO.ite ?_ ?_
      | refine LeO.bind ?_ (fun _ => ?_)
    · intro y0 y1 y2 y3 y4 y5 y6 y7
      unfold stipendlaw02_FracCompares.j2
      repeat' first
      | (with_reducible exact ih0 _ _ _ _ _ _ _ _ _)
      | (with_reducible exact ih1 _ _ _ _ _ _ _ _ _ _)
      | (with_reducible exact ih2 _ _ _ _ _ _ _ _)
      | (with_reducible exact ih3 _ _ _ _ _ _ _ _)
      | (with_reducible exact frac_Compare.mono _ _ _ _ _)
      | (with_reducible exact frac_Lowest.mono _ _ _)
      | (with_reducible exact stipendlaw02_parts.mono _)
      | (with_reducible exact LeO.refl _)
      | (with_reducible exact LeO.none _)
      | (with_reducible refine LeO.ite ?_ ?_)
      | (with_reducible refine LeO.bind ?_ (fun _ => ?_))
      | exact ih0 _ _ _ _ _ _ _ _ _
      | exact ih1 _ _ _ _ _ _ _ _ _ _
      | exact ih2 _ _ _ _ _ _ _ _
      | exact ih3 _ _ _ _ _ _ _ _
      | exact frac_Compare.mono _ _ _ _ _
      | exact frac_Lowest.mono _ _ _
      | exact stipendlaw02_parts.mono _
      | exact LeO.none _
      | refine LeO.ite ?_ ?_
      | refine LeO.bind ?_ (fun _ => ?_)
    · intro y0 y1 y2 y3 y4 y5 y6 y7
      unfold stipendlaw02_FracCompares.j3
      repeat' first
      | (with_reducible exact ih0 _ _ _ _ _ _ _ _ _)
      | (with_reducible exact ih1 _ _ _ _ _ _ _ _ _ _)
      | (with_reducible exact ih2 _ _ _ _ _ _ _ _)
      | (with_reducible exact ih3 _ _ _ _ _ _ _ _)
      | (with_reducible exact frac_Compare.mono _ _ _ _ _)
      | (with_reducible exact frac_Lowest.mono _ _ _)
      | (with_reducible exact stipendlaw02_parts.mono _)
      | (with_reducible exact LeO.refl _)
      | (with_reducible exact LeO.none _)
      | (with_reducible refine LeO.ite ?_ ?_)
      | (with_reducible refine LeO.bind ?_ (fun _ => ?_))
      | exact ih0 _ _ _ _ _ _ _ _ _
      | exact ih1 _ _ _ _ _ _ _ _ _ _
      | exact ih2 _ _ _ _ _ _ _ _
      | exact ih3 _ _ _ _ _ _ _ _
      | exact frac_Compare.mono _ _ _ _ _
      | exact frac_Lowest.mono _ _ _
      | exact stipendlaw02_parts.mono _
      | exact LeO.none _
      | refine LeO.ite ?_ ?_
      | refine LeO.bind ?_ (fun _ => ?_)
theorem stipendlaw02_FracCompares.mono : ∀ a0 a1 a2 a3 a4 a5 k, LeO (stipendlaw02_FracCompares.f k a0 a1 a2 a3 a4 a5) (stipendlaw02_FracCompares.f (k + 1) a0 a1 a2 a3 a4 a5) := by
  intro a0 a1 a2 a3 a4 a5 k
  obtain ⟨ih0, ih1, ih2, ih3⟩ := stipendlaw02_FracCompares.mono_l k
  unfold stipendlaw02_FracCompares.f
  repeat' first
      | (with_reducible exact ih0 _ _ _ _ _ _ _ _ _)
      | (with_reducible exact ih1 _ _ _ _ _ _ _ _ _ _)
      | (with_reducible exact ih2 _ _ _ _ _ _ _ _)
      | (with_reducible exact ih3 _ _ _ _ _ _ _ _)
      | (with_reducible exact frac_Compare.mono _ _ _ _ _)
      | (with_reducible exact frac_Lowest.mono _ _ _)
      | (with_reducible exact stipendlaw02_parts.mono _)
      | (with_reducible exact LeO.refl _)
      | (with_reducible exact LeO.none _)
      | (with_reducible refine LeO.ite ?_ ?_)
      | (with_reducible refine LeO.bind ?_ (fun _ => ?_))
      | exact ih0 _ _ _ _ _ _ _ _ _
      | exact ih1 _ _ _ _ _ _ _ _ _ _
      | exact ih2 _ _ _ _ _ _ _ _
      | exact ih3 _ _ _ _ _ _ _ _
      | exact frac_Compare.mono _ _ _ _ _
      | exact frac_Lowest.mono _ _ _
      | exact stipendlaw02_parts.mono _
      | exact LeO.none _
      | refine LeO.ite ?_ ?_
      | refine LeO.bind ?_ (fun _ => ?_)
set_option maxHeartbeats 8000000 in
set_option maxRecDepth 100000 in
theorem stipendlaw02_FracCompares.calls (k : Nat) (a0_0 : Int) (a0_1 : Int) (a1_0 : Int) (a1_1 : Int) (a2_0 : Int) (a2_1 : Int) (r : Bool) (w : World) (h : stipendlaw02_FracCompares.f k a0_0 a0_1 a1_0 a1_1 a2_0 a2_1 = some r) :
    Calls Try.prog 11 #[.agg #[.int .i64 a0_0, .int .i64 a0_1], .agg #[.int .i64 a1_0, .int .i64 a1_1], .agg #[.int .i64 a2_0, .int .i64 a2_1]] w fun e w' => e = .returned (.bool r) ∧ Below w.heap.size w w' := by
  have hu75 := Try.underlying75
  have HB := Aside0.mk (Below.refl w.heap.size w)
  have H : ((stipendlaw02_parts.f k).bind fun t174 => (if t174 = true then ((frac_Compare.f k a0_0 a0_1 a1_0 a1_1).bind fun bt175 => (if a0_1 ≤ 0 then (stipendlaw02_FracCompares.j0 k bt175.1 bt175.2 true a0_0 a0_1 a1_0 a1_1 a2_0 a2_1) else (stipendlaw02_FracCompares.j0 k bt175.1 bt175.2 (decide (a1_1 ≤ 0)) a0_0 a0_1 a1_0 a1_1 a2_0 a2_1))) else (some false))) = some r := h
  clear h
  replace H := Option.bind_eq_some_iff.mp H
  obtain ⟨t174, A40, H⟩ := H
  replace H : (if t174 = true then ((frac_Compare.f k a0_0 a0_1 a1_0 a1_1).bind fun bt175 => (if a0_1 ≤ 0 then (stipendlaw02_FracCompares.j0 k bt175.1 bt175.2 true a0_0 a0_1 a1_0 a1_1 a2_0 a2_1) else (stipendlaw02_FracCompares.j0 k bt175.1 bt175.2 (decide (a1_1 ≤ 0)) a0_0 a0_1 a1_0 a1_1 a2_0 a2_1))) else (some false)) = some r := H
  have A4 := Aside0.mk A40
  clear A40
  by_cases c5 : t174 = true
  · subst c5
    have H1 : ((frac_Compare.f k a0_0 a0_1 a1_0 a1_1).bind fun bt175 => (if a0_1 ≤ 0 then (stipendlaw02_FracCompares.j0 k bt175.1 bt175.2 true a0_0 a0_1 a1_0 a1_1 a2_0 a2_1) else (stipendlaw02_FracCompares.j0 k bt175.1 bt175.2 (decide (a1_1 ≤ 0)) a0_0 a0_1 a1_0 a1_1 a2_0 a2_1))) = some r := by rw [if_pos rfl] at H; exact H
    clear H
    have H := H1
    clear H1
    replace H := Option.bind_eq_some_iff.mp H
    obtain ⟨⟨t175, t176⟩, A60, H⟩ := H
    replace H : (if a0_1 ≤ 0 then (stipendlaw02_FracCompares.j0 k t175 t176 true a0_0 a0_1 a1_0 a1_1 a2_0 a2_1) else (stipendlaw02_FracCompares.j0 k t175 t176 (decide (a1_1 ≤ 0)) a0_0 a0_1 a1_0 a1_1 a2_0 a2_1)) = some r := H
    have A6 := Aside0.mk A60
    clear A60
    have HC7 := Aside0.mk H
    clear H
    go_enter Try.func11, Try.ntmps11
    go_upto_region 4 with (first | ((with_reducible refine gate_dst (N := 3) rfl ?_); refine box_event ?hg (N := 3) ?hd (cs := #[.int .i64 a0_0, .int .i64 a0_1]) (t := 75) ?hr ?_; (case hd => rfl); (case hg => rfl); (case hr => first | (go_simp; done) | (go_simp; rfl)); intro gb171 hg w8 hbox hb; have n0_ := Aside0.mk (below_step (by repeat (first | (with_reducible first | exact HB.out | apply below_alloc | apply pw_below_drewN | apply below_drew1) | exact HB.out)) hb); have n1_ := Aside0.mk (hbox); have n2_ := Aside0.mk ((by rw [hg]; exact (below_size (by repeat (first | (with_reducible first | exact HB.out | apply below_alloc | apply pw_below_drewN | apply below_drew1) | exact HB.out))) : w.heap.size ≤ gb171)); have n3_ := Aside0.mk ((by rw [hg]; exact (below_size (by repeat (first | (with_reducible first | exact HB.out | apply below_alloc | apply pw_below_drewN | apply below_drew1) | exact HB.out))) : w.heap.size ≤ gb171)); clear HB; have HB := n0_; have BK171 := n1_; have GW171 := n2_; have GE171 := n3_; clear n0_ n1_ n2_ n3_; clear hb hbox hg) | ((with_reducible refine gate_dst (N := 4) rfl ?_); refine box_event ?hg (N := 4) ?hd (cs := #[.int .i64 a1_0, .int .i64 a1_1]) (t := 75) ?hr ?_; (case hd => rfl); (case hg => rfl); (case hr => first | (go_simp; done) | (go_simp; rfl)); intro gb172 hg w9 hbox hb; have n0_ := Aside0.mk (blk_below (g := gb171) (o := .cells #[.int .i64 a0_0, .int .i64 a0_1] 75 (0, 0)) (by (with_reducible repeat (first | refine blk_drewN ?_ _ | refine blk_drew ?_ | refine blk_alloc ?_ _)); exact BK171.out) hb); have n1_ := Aside0.mk (below_step (by repeat (first | (with_reducible first | exact HB.out | apply below_alloc | apply pw_below_drewN | apply below_drew1 | refine below_set ?_ GE171.out) | exact HB.out)) hb); have n2_ := Aside0.mk (hbox); have n3_ := Aside0.mk ((by rw [hg]; exact (below_size (by repeat (first | (with_reducible first | exact HB.out | apply below_alloc | apply pw_below_drewN | apply below_drew1 | refine below_set ?_ GE171.out) | exact HB.out))) : w.heap.size ≤ gb172)); have n4_ := Aside0.mk ((by rw [hg]; exact (below_size (by repeat (first | (with_reducible first | exact HB.out | apply below_alloc | apply pw_below_drewN | apply below_drew1 | refine below_set ?_ GE171.out) | exact HB.out))) : w.heap.size ≤ gb172)); have n5_ := Aside0.mk ((by rw [hg]; exact Nat.ne_of_lt (blk_lt (g := gb171) (o := .cells #[.int .i64 a0_0, .int .i64 a0_1] 75 (0, 0)) (by (with_reducible repeat (first | refine blk_drewN ?_ _ | refine blk_drew ?_ | refine blk_alloc ?_ _)); exact BK171.out)) : gb171 ≠ gb172)); have n6_ := Aside0.mk ((by rw [hg]; exact Nat.ne_of_gt (blk_lt (g := gb171) (o := .cells #[.int .i64 a0_0, .int .i64 a0_1] 75 (0, 0)) (by (with_reducible repeat (first | refine blk_drewN ?_ _ | refine blk_drew ?_ | refine blk_alloc ?_ _)); exact BK171.out)) : gb172 ≠ gb171)); clear BK171; clear HB; have BK171 := n0_; have HB := n1_; have BK172 := n2_; have GW172 := n3_; have GE172 := n4_; have NB171_172 := n5_; have NB172_171 := n6_; clear n0_ n1_ n2_ n3_ n4_ n5_ n6_; clear hb hbox hg) | ((with_reducible refine gate_dst (N := 5) rfl ?_); refine box_event ?hg (N := 5) ?hd (cs := #[.int .i64 a2_0, .int .i64 a2_1]) (t := 75) ?hr ?_; (case hd => rfl); (case hg => rfl); (case hr => first | (go_simp; done) | (go_simp; rfl)); intro gb173 hg w10 hbox hb; have n0_ := Aside0.mk (blk_below (g := gb171) (o := .cells #[.int .i64 a0_0, .int .i64 a0_1] 75 (0, 0)) (by (with_reducible repeat (first | refine blk_drewN ?_ _ | refine blk_drew ?_ | refine blk_alloc ?_ _)); exact BK171.out) hb); have n1_ := Aside0.mk (blk_below (g := gb172) (o := .cells #[.int .i64 a1_0, .int .i64 a1_1] 75 (0, 0)) (by (with_reducible repeat (first | refine blk_drewN ?_ _ | refine blk_drew ?_ | refine blk_alloc ?_ _)); exact BK172.out) hb); have n2_ := Aside0.mk (below_step (by repeat (first | (with_reducible first | exact HB.out | apply below_alloc | apply pw_below_drewN | apply below_drew1 | refine below_set ?_ GE171.out | refine below_set ?_ GE172.out) | exact HB.out)) hb); have n3_ := Aside0.mk (hbox); have n4_ := Aside0.mk ((by rw [hg]; exact (below_size (by repeat (first | (with_reducible first | exact HB.out | apply below_alloc | apply pw_below_drewN | apply below_drew1 | refine below_set ?_ GE171.out | refine below_set ?_ GE172.out) | exact HB.out))) : w.heap.size ≤ gb173)); have n5_ := Aside0.mk ((by rw [hg]; exact (below_size (by repeat (first | (with_reducible first | exact HB.out | apply below_alloc | apply pw_below_drewN | apply below_drew1 | refine below_set ?_ GE171.out | refine below_set ?_ GE172.out) | exact HB.out))) : w.heap.size ≤ gb173)); have n6_ := Aside0.mk ((by rw [hg]; exact Nat.ne_of_lt (blk_lt (g := gb171) (o := .cells #[.int .i64 a0_0, .int .i64 a0_1] 75 (0, 0)) (by (with_reducible repeat (first | refine blk_drewN ?_ _ | refine blk_drew ?_ | refine blk_alloc ?_ _)); exact BK171.out)) : gb171 ≠ gb173)); have n7_ := Aside0.mk ((by rw [hg]; exact Nat.ne_of_gt (blk_lt (g := gb171) (o := .cells #[.int .i64 a0_0, .int .i64 a0_1] 75 (0, 0)) (by (with_reducible repeat (first | refine blk_drewN ?_ _ | refine blk_drew ?_ | refine blk_alloc ?_ _)); exact BK171.out)) : gb173 ≠ gb171)); have n8_ := Aside0.mk ((by rw [hg]; exact Nat.ne_of_lt (blk_lt (g := gb172) (o := .cells #[.int .i64 a1_0, .int .i64 a1_1] 75 (0, 0)) (by (with_reducible repeat (first | refine blk_drewN ?_ _ | refine blk_drew ?_ | refine blk_alloc ?_ _)); exact BK172.out)) : gb172 ≠ gb173)); have n9_ := Aside0.mk ((by rw [hg]; exact Nat.ne_of_gt (blk_lt (g := gb172) (o := .cells #[.int .i64 a1_0, .int .i64 a1_1] 75 (0, 0)) (by (with_reducible repeat (first | refine blk_drewN ?_ _ | refine blk_drew ?_ | refine blk_alloc ?_ _)); exact BK172.out)) : gb173 ≠ gb172)); clear BK171; clear BK172; clear HB; have BK171 := n0_; have BK172 := n1_; have HB := n2_; have BK173 := n3_; have GW173 := n4_; have GE173 := n5_; have NB171_173 := n6_; have NB173_171 := n7_; have NB172_173 := n8_; have NB173_172 := n9_; clear n0_ n1_ n2_ n3_ n4_ n5_ n6_ n7_ n8_ n9_; clear hb hbox hg) | (go_at_call 30; (with_reducible refine (stipendlaw02_parts.calls k  true _ A4.out).mono ?_); rintro e w11 ⟨rfl, hb⟩; have n0_ := Aside0.mk (blk_below (g := gb171) (o := .cells #[.int .i64 a0_0, .int .i64 a0_1] 75 (0, 0)) (by (with_reducible repeat (first | refine blk_drewN ?_ _ | refine blk_drew ?_ | refine blk_alloc ?_ _)); exact BK171.out) hb); have n1_ := Aside0.mk (blk_below (g := gb172) (o := .cells #[.int .i64 a1_0, .int .i64 a1_1] 75 (0, 0)) (by (with_reducible repeat (first | refine blk_drewN ?_ _ | refine blk_drew ?_ | refine blk_alloc ?_ _)); exact BK172.out) hb); have n2_ := Aside0.mk (blk_below (g := gb173) (o := .cells #[.int .i64 a2_0, .int .i64 a2_1] 75 (0, 0)) (by (with_reducible repeat (first | refine blk_drewN ?_ _ | refine blk_drew ?_ | refine blk_alloc ?_ _)); exact BK173.out) hb); have n3_ := Aside0.mk (below_step (by repeat (first | (with_reducible first | exact HB.out | apply below_alloc | apply pw_below_drewN | apply below_drew1 | refine below_set ?_ GE171.out | refine below_set ?_ GE172.out | refine below_set ?_ GE173.out) | exact HB.out)) hb); clear BK171; clear BK172; clear BK173; clear HB; have BK171 := n0_; have BK172 := n1_; have BK173 := n2_; have HB := n3_; clear n0_ n1_ n2_ n3_; (try clear hb); (try clear hb2); (try clear hk); (try clear hi); have hnb12 := NB171_172.out; have hnc12 := NB172_171.out; have hnb13 := NB171_173.out; have hnc13 := NB173_171.out; have hcz14_0 : w11.cell? ⟨gb171, 0, none⟩ = some (.int .i64 a0_0) := (blk_cell BK171.out 0).trans rfl; have hcz14_1 : w11.cell? ⟨gb171, 1, none⟩ = some (.int .i64 a0_1) := (blk_cell BK171.out 1).trans rfl; have hfz14_0 := blk_frozen BK171.out 0; have hfz14_1 := blk_frozen BK171.out 1; have hnb15 := NB172_173.out; have hnc15 := NB173_172.out; have hcz16_0 : w11.cell? ⟨gb172, 0, none⟩ = some (.int .i64 a1_0) := (blk_cell BK172.out 0).trans rfl; have hcz16_1 : w11.cell? ⟨gb172, 1, none⟩ = some (.int .i64 a1_1) := (blk_cell BK172.out 1).trans rfl; have hfz16_0 := blk_frozen BK172.out 0; have hfz16_1 := blk_frozen BK172.out 1) | (go_at_call 34; (with_reducible refine (frac_Compare.calls k a0_0 a0_1 a1_0 a1_1 t175 t176 _ A6.out).mono ?_); rintro e w' ⟨rfl, ⟨nd, rfl⟩⟩; (try first | exact ⟨rfl, _, World.drewN_drewN _ _ _⟩ | exact ⟨rfl, _, Eq.trans (World.drewN_drewN _ _ _) (congrArg (World.drewN _) (Nat.add_assoc _ _ _))⟩)))
    repeat (go_quiet (first | ((with_reducible refine gate_dst (N := 3) rfl ?_); refine box_event ?hg (N := 3) ?hd (cs := #[.int .i64 a0_0, .int .i64 a0_1]) (t := 75) ?hr ?_; (case hd => rfl); (case hg => rfl); (case hr => first | (go_simp; done) | (go_simp; rfl)); intro gb171 hg w8 hbox hb; have n0_ := Aside0.mk (below_step (by repeat (first | (with_reducible first | exact HB.out | apply below_alloc | apply pw_below_drewN | apply below_drew1) | exact HB.out)) hb); have n1_ := Aside0.mk (hbox); have n2_ := Aside0.mk ((by rw [hg]; exact (below_size (by repeat (first | (with_reducible first | exact HB.out | apply below_alloc | apply pw_below_drewN | apply below_drew1) | exact HB.out))) : w.heap.size ≤ gb171)); have n3_ := Aside0.mk ((by rw [hg]; exact (below_size (by repeat (first | (with_reducible first | exact HB.out | apply below_alloc | apply pw_below_drewN | apply below_drew1) | exact HB.out))) : w.heap.size ≤ gb171)); clear HB; have HB := n0_; have BK171 := n1_; have GW171 := n2_; have GE171 := n3_; clear n0_ n1_ n2_ n3_; clear hb hbox hg) | ((with_reducible refine gate_dst (N := 4) rfl ?_); refine box_event ?hg (N := 4) ?hd (cs := #[.int .i64 a1_0, .int .i64 a1_1]) (t := 75) ?hr ?_; (case hd => rfl); (case hg => rfl); (case hr => first | (go_simp; done) | (go_simp; rfl)); intro gb172 hg w9 hbox hb; have n0_ := Aside0.mk (blk_below (g := gb171) (o := .cells #[.int .i64 a0_0, .int .i64 a0_1] 75 (0, 0)) (by (with_reducible repeat (first | refine blk_drewN ?_ _ | refine blk_drew ?_ | refine blk_alloc ?_ _)); exact BK171.out) hb); have n1_ := Aside0.mk (below_step (by repeat (first | (with_reducible first | exact HB.out | apply below_alloc | apply pw_below_drewN | apply below_drew1 | refine below_set ?_ GE171.out) | exact HB.out)) hb); have n2_ := Aside0.mk (hbox); have n3_ := Aside0.mk ((by rw [hg]; exact (below_size (by repeat (first | (with_reducible first | exact HB.out | apply below_alloc | apply pw_below_drewN | apply below_drew1 | refine below_set ?_ GE171.out) | exact HB.out))) : w.heap.size ≤ gb172)); have n4_ := Aside0.mk ((by rw [hg]; exact (below_size (by repeat (first | (with_reducible first | exact HB.out | apply below_alloc | apply pw_below_drewN | apply below_drew1 | refine below_set ?_ GE171.out) | exact HB.out))) : w.heap.size ≤ gb172)); have n5_ := Aside0.mk ((by rw [hg]; exact Nat.ne_of_lt (blk_lt (g := gb171) (o := .cells #[.int .i64 a0_0, .int .i64 a0_1] 75 (0, 0)) (by (with_reducible repeat (first | refine blk_drewN ?_ _ | refine blk_drew ?_ | refine blk_alloc ?_ _)); exact BK171.out)) : gb171 ≠ gb172)); have n6_ := Aside0.mk ((by rw [hg]; exact Nat.ne_of_gt (blk_lt (g := gb171) (o := .cells #[.int .i64 a0_0, .int .i64 a0_1] 75 (0, 0)) (by (with_reducible repeat (first | refine blk_drewN ?_ _ | refine blk_drew ?_ | refine blk_alloc ?_ _)); exact BK171.out)) : gb172 ≠ gb171)); clear BK171; clear HB; have BK171 := n0_; have HB := n1_; have BK172 := n2_; have GW172 := n3_; have GE172 := n4_; have NB171_172 := n5_; have NB172_171 := n6_; clear n0_ n1_ n2_ n3_ n4_ n5_ n6_; clear hb hbox hg) | ((with_reducible refine gate_dst (N := 5) rfl ?_); refine box_event ?hg (N := 5) ?hd (cs := #[.int .i64 a2_0, .int .i64 a2_1]) (t := 75) ?hr ?_; (case hd => rfl); (case hg => rfl); (case hr => first | (go_simp; done) | (go_simp; rfl)); intro gb173 hg w10 hbox hb; have n0_ := Aside0.mk (blk_below (g := gb171) (o := .cells #[.int .i64 a0_0, .int .i64 a0_1] 75 (0, 0)) (by (with_reducible repeat (first | refine blk_drewN ?_ _ | refine blk_drew ?_ | refine blk_alloc ?_ _)); exact BK171.out) hb); have n1_ := Aside0.mk (blk_below (g := gb172) (o := .cells #[.int .i64 a1_0, .int .i64 a1_1] 75 (0, 0)) (by (with_reducible repeat (first | refine blk_drewN ?_ _ | refine blk_drew ?_ | refine blk_alloc ?_ _)); exact BK172.out) hb); have n2_ := Aside0.mk (below_step (by repeat (first | (with_reducible first | exact HB.out | apply below_alloc | apply pw_below_drewN | apply below_drew1 | refine below_set ?_ GE171.out | refine below_set ?_ GE172.out) | exact HB.out)) hb); have n3_ := Aside0.mk (hbox); have n4_ := Aside0.mk ((by rw [hg]; exact (below_size (by repeat (first | (with_reducible first | exact HB.out | apply below_alloc | apply pw_below_drewN | apply below_drew1 | refine below_set ?_ GE171.out | refine below_set ?_ GE172.out) | exact HB.out))) : w.heap.size ≤ gb173)); have n5_ := Aside0.mk ((by rw [hg]; exact (below_size (by repeat (first | (with_reducible first | exact HB.out | apply below_alloc | apply pw_below_drewN | apply below_drew1 | refine below_set ?_ GE171.out | refine below_set ?_ GE172.out) | exact HB.out))) : w.heap.size ≤ gb173)); have n6_ := Aside0.mk ((by rw [hg]; exact Nat.ne_of_lt (blk_lt (g := gb171) (o := .cells #[.int .i64 a0_0, .int .i64 a0_1] 75 (0, 0)) (by (with_reducible repeat (first | refine blk_drewN ?_ _ | refine blk_drew ?_ | refine blk_alloc ?_ _)); exact BK171.out)) : gb171 ≠ gb173)); have n7_ := Aside0.mk ((by rw [hg]; exact Nat.ne_of_gt (blk_lt (g := gb171) (o := .cells #[.int .i64 a0_0, .int .i64 a0_1] 75 (0, 0)) (by (with_reducible repeat (first | refine blk_drewN ?_ _ | refine blk_drew ?_ | refine blk_alloc ?_ _)); exact BK171.out)) : gb173 ≠ gb171)); have n8_ := Aside0.mk ((by rw [hg]; exact Nat.ne_of_lt (blk_lt (g := gb172) (o := .cells #[.int .i64 a1_0, .int .i64 a1_1] 75 (0, 0)) (by (with_reducible repeat (first | refine blk_drewN ?_ _ | refine blk_drew ?_ | refine blk_alloc ?_ _)); exact BK172.out)) : gb172 ≠ gb173)); have n9_ := Aside0.mk ((by rw [hg]; exact Nat.ne_of_gt (blk_lt (g := gb172) (o := .cells #[.int .i64 a1_0, .int .i64 a1_1] 75 (0, 0)) (by (with_reducible repeat (first | refine blk_drewN ?_ _ | refine blk_drew ?_ | refine blk_alloc ?_ _)); exact BK172.out)) : gb173 ≠ gb172)); clear BK171; clear BK172; clear HB; have BK171 := n0_; have BK172 := n1_; have HB := n2_; have BK173 := n3_; have GW173 := n4_; have GE173 := n5_; have NB171_173 := n6_; have NB173_171 := n7_; have NB172_173 := n8_; have NB173_172 := n9_; clear n0_ n1_ n2_ n3_ n4_ n5_ n6_ n7_ n8_ n9_; clear hb hbox hg) | (go_at_call 30; (with_reducible refine (stipendlaw02_parts.calls k  true _ A4.out).mono ?_); rintro e w11 ⟨rfl, hb⟩; have n0_ := Aside0.mk (blk_below (g := gb171) (o := .cells #[.int .i64 a0_0, .int .i64 a0_1] 75 (0, 0)) (by (with_reducible repeat (first | refine blk_drewN ?_ _ | refine blk_drew ?_ | refine blk_alloc ?_ _)); exact BK171.out) hb); have n1_ := Aside0.mk (blk_below (g := gb172) (o := .cells #[.int .i64 a1_0, .int .i64 a1_1] 75 (0, 0)) (by (with_reducible repeat (first | refine blk_drewN ?_ _ | refine blk_drew ?_ | refine blk_alloc ?_ _)); exact BK172.out) hb); have n2_ := Aside0.mk (blk_below (g := gb173) (o := .cells #[.int .i64 a2_0, .int .i64 a2_1] 75 (0, 0)) (by (with_reducible repeat (first | refine blk_drewN ?_ _ | refine blk_drew ?_ | refine blk_alloc ?_ _)); exact BK173.out) hb); have n3_ := Aside0.mk (below_step (by repeat (first | (with_reducible first | exact HB.out | apply below_alloc | apply pw_below_drewN | apply below_drew1 | refine below_set ?_ GE171.out | refine below_set ?_ GE172.out | refine below_set ?_ GE173.out) | exact HB.out)) hb); clear BK171; clear BK172; clear BK173; clear HB; have BK171 := n0_; have BK172 := n1_; have BK173 := n2_; have HB := n3_; clear n0_ n1_ n2_ n3_; (try clear hb); (try clear hb2); (try clear hk); (try clear hi); have hnb12 := NB171_172.out; have hnc12 := NB172_171.out; have hnb13 := NB171_173.out; have hnc13 := NB173_171.out; have hcz14_0 : w11.cell? ⟨gb171, 0, none⟩ = some (.int .i64 a0_0) := (blk_cell BK171.out 0).trans rfl; have hcz14_1 : w11.cell? ⟨gb171, 1, none⟩ = some (.int .i64 a0_1) := (blk_cell BK171.out 1).trans rfl; have hfz14_0 := blk_frozen BK171.out 0; have hfz14_1 := blk_frozen BK171.out 1; have hnb15 := NB172_173.out; have hnc15 := NB173_172.out; have hcz16_0 : w11.cell? ⟨gb172, 0, none⟩ = some (.int .i64 a1_0) := (blk_cell BK172.out 0).trans rfl; have hcz16_1 : w11.cell? ⟨gb172, 1, none⟩ = some (.int .i64 a1_1) := (blk_cell BK172.out 1).trans rfl; have hfz16_0 := blk_frozen BK172.out 0; have hfz16_1 := blk_frozen BK172.out 1) | (go_at_call 34; (with_reducible refine (frac_Compare.calls k a0_0 a0_1 a1_0 a1_1 t175 t176 _ A6.out).mono ?_); rintro e w' ⟨rfl, ⟨nd, rfl⟩⟩; (try first | exact ⟨rfl, _, World.drewN_drewN _ _ _⟩ | exact ⟨rfl, _, Eq.trans (World.drewN_drewN _ _ _) (congrArg (World.drewN _) (Nat.add_assoc _ _ _))⟩))); go_upto_region 4 with (first | ((with_reducible refine gate_dst (N := 3) rfl ?_); refine box_event ?hg (N := 3) ?hd (cs := #[.int .i64 a0_0, .int .i64 a0_1]) (t := 75) ?hr ?_; (case hd => rfl); (case hg => rfl); (case hr => first | (go_simp; done) | (go_simp; rfl)); intro gb171 hg w8 hbox hb; have n0_ := Aside0.mk (below_step (by repeat (first | (with_reducible first | exact HB.out | apply below_alloc | apply pw_below_drewN | apply below_drew1) | exact HB.out)) hb); have n1_ := Aside0.mk (hbox); have n2_ := Aside0.mk ((by rw [hg]; exact (below_size (by repeat (first | (with_reducible first | exact HB.out | apply below_alloc | apply pw_below_drewN | apply below_drew1) | exact HB.out))) : w.heap.size ≤ gb171)); have n3_ := Aside0.mk ((by rw [hg]; exact (below_size (by repeat (first | (with_reducible first | exact HB.out | apply below_alloc | apply pw_below_drewN | apply below_drew1) | exact HB.out))) : w.heap.size ≤ gb171)); clear HB; have HB := n0_; have BK171 := n1_; have GW171 := n2_; have GE171 := n3_; clear n0_ n1_ n2_ n3_; clear hb hbox hg) | ((with_reducible refine gate_dst (N := 4) rfl ?_); refine box_event ?hg (N := 4) ?hd (cs := #[.int .i64 a1_0, .int .i64 a1_1]) (t := 75) ?hr ?_; (case hd => rfl); (case hg => rfl); (case hr => first | (go_simp; done) | (go_simp; rfl)); intro gb172 hg w9 hbox hb; have n0_ := Aside0.mk (blk_below (g := gb171) (o := .cells #[.int .i64 a0_0, .int .i64 a0_1] 75 (0, 0)) (by (with_reducible repeat (first | refine blk_drewN ?_ _ | refine blk_drew ?_ | refine blk_alloc ?_ _)); exact BK171.out) hb); have n1_ := Aside0.mk (below_step (by repeat (first | (with_reducible first | exact HB.out | apply below_alloc | apply pw_below_drewN | apply below_drew1 | refine below_set ?_ GE171.out) | exact HB.out)) hb); have n2_ := Aside0.mk (hbox); have n3_ := Aside0.mk ((by rw [hg]; exact (below_size (by repeat (first | (with_reducible first | exact HB.out | apply below_alloc | apply pw_below_drewN | apply below_drew1 | refine below_set ?_ GE171.out) | exact HB.out))) : w.heap.size ≤ gb172)); have n4_ := Aside0.mk ((by rw [hg]; exact (below_size (by repeat (first | (with_reducible first | exact HB.out | apply below_alloc | apply pw_below_drewN | apply below_drew1 | refine below_set ?_ GE171.out) | exact HB.out))) : w.heap.size ≤ gb172)); have n5_ := Aside0.mk ((by rw [hg]; exact Nat.ne_of_lt (blk_lt (g := gb171) (o := .cells #[.int .i64 a0_0, .int .i64 a0_1] 75 (0, 0)) (by (with_reducible repeat (first | refine blk_drewN ?_ _ | refine blk_drew ?_ | refine blk_alloc ?_ _)); exact BK171.out)) : gb171 ≠ gb172)); have n6_ := Aside0.mk ((by rw [hg]; exact Nat.ne_of_gt (blk_lt (g := gb171) (o := .cells #[.int .i64 a0_0, .int .i64 a0_1] 75 (0, 0)) (by (with_reducible repeat (first | refine blk_drewN ?_ _ | refine blk_drew ?_ | refine blk_alloc ?_ _)); exact BK171.out)) : gb172 ≠ gb171)); clear BK171; clear HB; have BK171 := n0_; have HB := n1_; have BK172 := n2_; have GW172 := n3_; have GE172 := n4_; have NB171_172 := n5_; have NB172_171 := n6_; clear n0_ n1_ n2_ n3_ n4_ n5_ n6_; clear hb hbox hg) | ((with_reducible refine gate_dst (N := 5) rfl ?_); refine box_event ?hg (N := 5) ?hd (cs := #[.int .i64 a2_0, .int .i64 a2_1]) (t := 75) ?hr ?_; (case hd => rfl); (case hg => rfl); (case hr => first | (go_simp; done) | (go_simp; rfl)); intro gb173 hg w10 hbox hb; have n0_ := Aside0.mk (blk_below (g := gb171) (o := .cells #[.int .i64 a0_0, .int .i64 a0_1] 75 (0, 0)) (by (with_reducible repeat (first | refine blk_drewN ?_ _ | refine blk_drew ?_ | refine blk_alloc ?_ _)); exact BK171.out) hb); have n1_ := Aside0.mk (blk_below (g := gb172) (o := .cells #[.int .i64 a1_0, .int .i64 a1_1] 75 (0, 0)) (by (with_reducible repeat (first | refine blk_drewN ?_ _ | refine blk_drew ?_ | refine blk_alloc ?_ _)); exact BK172.out) hb); have n2_ := Aside0.mk (below_step (by repeat (first | (with_reducible first | exact HB.out | apply below_alloc | apply pw_below_drewN | apply below_drew1 | refine below_set ?_ GE171.out | refine below_set ?_ GE172.out) | exact HB.out)) hb); have n3_ := Aside0.mk (hbox); have n4_ := Aside0.mk ((by rw [hg]; exact (below_size (by repeat (first | (with_reducible first | exact HB.out | apply below_alloc | apply pw_below_drewN | apply below_drew1 | refine below_set ?_ GE171.out | refine below_set ?_ GE172.out) | exact HB.out))) : w.heap.size ≤ gb173)); have n5_ := Aside0.mk ((by rw [hg]; exact (below_size (by repeat (first | (with_reducible first | exact HB.out | apply below_alloc | apply pw_below_drewN | apply below_drew1 | refine below_set ?_ GE171.out | refine below_set ?_ GE172.out) | exact HB.out))) : w.heap.size ≤ gb173)); have n6_ := Aside0.mk ((by rw [hg]; exact Nat.ne_of_lt (blk_lt (g := gb171) (o := .cells #[.int .i64 a0_0, .int .i64 a0_1] 75 (0, 0)) (by (with_reducible repeat (first | refine blk_drewN ?_ _ | refine blk_drew ?_ | refine blk_alloc ?_ _)); exact BK171.out)) : gb171 ≠ gb173)); have n7_ := Aside0.mk ((by rw [hg]; exact Nat.ne_of_gt (blk_lt (g := gb171) (o := .cells #[.int .i64 a0_0, .int .i64 a0_1] 75 (0, 0)) (by (with_reducible repeat (first | refine blk_drewN ?_ _ | refine blk_drew ?_ | refine blk_alloc ?_ _)); exact BK171.out)) : gb173 ≠ gb171)); have n8_ := Aside0.mk ((by rw [hg]; exact Nat.ne_of_lt (blk_lt (g := gb172) (o := .cells #[.int .i64 a1_0, .int .i64 a1_1] 75 (0, 0)) (by (with_reducible repeat (first | refine blk_drewN ?_ _ | refine blk_drew ?_ | refine blk_alloc ?_ _)); exact BK172.out)) : gb172 ≠ gb173)); have n9_ := Aside0.mk ((by rw [hg]; exact Nat.ne_of_gt (blk_lt (g := gb172) (o := .cells #[.int .i64 a1_0, .int .i64 a1_1] 75 (0, 0)) (by (with_reducible repeat (first | refine blk_drewN ?_ _ | refine blk_drew ?_ | refine blk_alloc ?_ _)); exact BK172.out)) : gb173 ≠ gb172)); clear BK171; clear BK172; clear HB; have BK171 := n0_; have BK172 := n1_; have HB := n2_; have BK173 := n3_; have GW173 := n4_; have GE173 := n5_; have NB171_173 := n6_; have NB173_171 := n7_; have NB172_173 := n8_; have NB173_172 := n9_; clear n0_ n1_ n2_ n3_ n4_ n5_ n6_ n7_ n8_ n9_; clear hb hbox hg) | (go_at_call 30; (with_reducible refine (stipendlaw02_parts.calls k  true _ A4.out).mono ?_); rintro e w11 ⟨rfl, hb⟩; have n0_ := Aside0.mk (blk_below (g := gb171) (o := .cells #[.int .i64 a0_0, .int .i64 a0_1] 75 (0, 0)) (by (with_reducible repeat (first | refine blk_drewN ?_ _ | refine blk_drew ?_ | refine blk_alloc ?_ _)); exact BK171.out) hb); have n1_ := Aside0.mk (blk_below (g := gb172) (o := .cells #[.int .i64 a1_0, .int .i64 a1_1] 75 (0, 0)) (by (with_reducible repeat (first | refine blk_drewN ?_ _ | refine blk_drew ?_ | refine blk_alloc ?_ _)); exact BK172.out) hb); have n2_ := Aside0.mk (blk_below (g := gb173) (o := .cells #[.int .i64 a2_0, .int .i64 a2_1] 75 (0, 0)) (by (with_reducible repeat (first | refine blk_drewN ?_ _ | refine blk_drew ?_ | refine blk_alloc ?_ _)); exact BK173.out) hb); have n3_ := Aside0.mk (below_step (by repeat (first | (with_reducible first | exact HB.out | apply below_alloc | apply pw_below_drewN | apply below_drew1 | refine below_set ?_ GE171.out | refine below_set ?_ GE172.out | refine below_set ?_ GE173.out) | exact HB.out)) hb); clear BK171; clear BK172; clear BK173; clear HB; have BK171 := n0_; have BK172 := n1_; have BK173 := n2_; have HB := n3_; clear n0_ n1_ n2_ n3_; (try clear hb); (try clear hb2); (try clear hk); (try clear hi); have hnb12 := NB171_172.out; have hnc12 := NB172_171.out; have hnb13 := NB171_173.out; have hnc13 := NB173_171.out; have hcz14_0 : w11.cell? ⟨gb171, 0, none⟩ = some (.int .i64 a0_0) := (blk_cell BK171.out 0).trans rfl; have hcz14_1 : w11.cell? ⟨gb171, 1, none⟩ = some (.int .i64 a0_1) := (blk_cell BK171.out 1).trans rfl; have hfz14_0 := blk_frozen BK171.out 0; have hfz14_1 := blk_frozen BK171.out 1; have hnb15 := NB172_173.out; have hnc15 := NB173_172.out; have hcz16_0 : w11.cell? ⟨gb172, 0, none⟩ = some (.int .i64 a1_0) := (blk_cell BK172.out 0).trans rfl; have hcz16_1 : w11.cell? ⟨gb172, 1, none⟩ = some (.int .i64 a1_1) := (blk_cell BK172.out 1).trans rfl; have hfz16_0 := blk_frozen BK172.out 0; have hfz16_1 := blk_frozen BK172.out 1) | (go_at_call 34; (with_reducible refine (frac_Compare.calls k a0_0 a0_1 a1_0 a1_1 t175 t176 _ A6.out).mono ?_); rintro e w' ⟨rfl, ⟨nd, rfl⟩⟩; (try first | exact ⟨rfl, _, World.drewN_drewN _ _ _⟩ | exact ⟨rfl, _, Eq.trans (World.drewN_drewN _ _ _) (congrArg (World.drewN _) (Nat.add_assoc _ _ _))⟩))))
    (try simp only [Act.put, List.setIfInBounds_toArray, List.set_cons_zero, List.set_cons_succ])
    go_cut [46] (fun v46 wc => ∃ (kq : Nat) (x46_6 : Bool), v46 = .bool x46_6 ∧ Aside0 (stipendlaw02_FracCompares.j0 kq t175 t176 x46_6 a0_0 a0_1 a1_0 a1_1 a2_0 a2_1 = some r) ∧ Aside0 (kq ≤ k) ∧ Aside0 (wc.heap[gb171]? = some (.cells #[.int .i64 a0_0, .int .i64 a0_1] 75 (0, 0))) ∧ Aside0 (wc.heap[gb172]? = some (.cells #[.int .i64 a1_0, .int .i64 a1_1] 75 (0, 0))) ∧ Aside0 (wc.heap[gb173]? = some (.cells #[.int .i64 a2_0, .int .i64 a2_1] 75 (0, 0))) ∧ Aside0 (Below w.heap.size w wc))
    case first => as_aux_lemma =>
      have H := HC7.out
      clear HC7
      by_cases c17 : a0_1 ≤ 0
      · rw [if_pos c17] at H
        have c17b0 : decide (a0_1 ≤ 0) = true := decide_eq_true c17
        clear c17
        (first | rw [c17b0] | (simp only [i64_w, i32_w]; rw [c17b0]) | skip)
        have H' := Aside0.mk H
        clear H
        have hnb18 := NB171_172.out
        have hnc18 := NB172_171.out
        have hnb19 := NB171_173.out
        have hnc19 := NB173_171.out
        have hcz20_0 : w11.cell? ⟨gb171, 0, none⟩ = some (.int .i64 a0_0) := (blk_cell BK171.out 0).trans rfl
        have hcz20_1 : w11.cell? ⟨gb171, 1, none⟩ = some (.int .i64 a0_1) := (blk_cell BK171.out 1).trans rfl
        have hfz20_0 := blk_frozen BK171.out 0
        have hfz20_1 := blk_frozen BK171.out 1
        go_wp2
        repeat (go_quiet (fail); try go_wp2)
        go_meet
        case rel => exact ⟨_, (true), (by first | rfl | (simp; done) | (simp [*]; done)), H', ⟨by first | omega | exact Nat.le_refl _⟩, ⟨by (with_reducible repeat (first | refine blk_drewN ?_ _ | refine blk_drew ?_ | refine blk_alloc ?_ _)); exact BK171.out⟩, ⟨by (with_reducible repeat (first | refine blk_drewN ?_ _ | refine blk_drew ?_ | refine blk_alloc ?_ _)); exact BK172.out⟩, ⟨by (with_reducible repeat (first | refine blk_drewN ?_ _ | refine blk_drew ?_ | refine blk_alloc ?_ _)); exact BK173.out⟩, ⟨by repeat (first | (with_reducible first | exact HB.out | apply below_alloc | apply pw_below_drewN | apply below_drew1 | refine below_set ?_ GE171.out | refine below_set ?_ GE172.out | refine below_set ?_ GE173.out) | exact HB.out)⟩⟩
      · rw [if_neg c17] at H
        have c17b0 : decide (a0_1 ≤ 0) = false := decide_eq_false c17
        clear c17
        (first | rw [c17b0] | (simp only [i64_w, i32_w]; rw [c17b0]) | skip)
        have H' := Aside0.mk H
        clear H
        have hnb21 := NB171_172.out
        have hnc21 := NB172_171.out
        have hnb22 := NB171_173.out
        have hnc22 := NB173_171.out
        have hcz23_0 : w11.cell? ⟨gb171, 0, none⟩ = some (.int .i64 a0_0) := (blk_cell BK171.out 0).trans rfl
        have hcz23_1 : w11.cell? ⟨gb171, 1, none⟩ = some (.int .i64 a0_1) := (blk_cell BK171.out 1).trans rfl
        have hfz23_0 := blk_frozen BK171.out 0
        have hfz23_1 := blk_frozen BK171.out 1
        have hnb24 := NB172_173.out
        have hnc24 := NB173_172.out
        have hcz25_0 : w11.cell? ⟨gb172, 0, none⟩ = some (.int .i64 a1_0) := (blk_cell BK172.out 0).trans rfl
        have hcz25_1 : w11.cell? ⟨gb172, 1, none⟩ = some (.int .i64 a1_1) := (blk_cell BK172.out 1).trans rfl
        have hfz25_0 := blk_frozen BK172.out 0
        have hfz25_1 := blk_frozen BK172.out 1
        go_wp2
        repeat (go_quiet (fail); try go_wp2)
        go_meet
        case rel => exact ⟨_, (decide (a1_1 ≤ 0)), (by first | rfl | (simp; done) | (simp [*]; done)), H', ⟨by first | omega | exact Nat.le_refl _⟩, ⟨by (with_reducible repeat (first | refine blk_drewN ?_ _ | refine blk_drew ?_ | refine blk_alloc ?_ _)); exact BK171.out⟩, ⟨by (with_reducible repeat (first | refine blk_drewN ?_ _ | refine blk_drew ?_ | refine blk_alloc ?_ _)); exact BK172.out⟩, ⟨by (with_reducible repeat (first | refine blk_drewN ?_ _ | refine blk_drew ?_ | refine blk_alloc ?_ _)); exact BK173.out⟩, ⟨by repeat (first | (with_reducible first | exact HB.out | apply below_alloc | apply pw_below_drewN | apply below_drew1 | refine below_set ?_ GE171.out | refine below_set ?_ GE172.out | refine below_set ?_ GE173.out) | exact HB.out)⟩⟩
    case rest => as_aux_lemma =>
      clear HC7
      try clear c1
      try clear c2
      try clear p2
      try clear c5
      try clear c11
      try clear c12
      try clear c13
      try clear c15
      try clear c17
      try clear c17b0
      try clear c18
      try clear c19
      try clear c21
      try clear c22
      try clear c24
      try clear hcz14_0
      try clear hcz14_1
      try clear hcz16_0
      try clear hcz16_1
      try clear hcz20_0
      try clear hcz20_1
      try clear hcz23_0
      try clear hcz23_1
      try clear hcz25_0
      try clear hcz25_1
      try clear hfz14_0
      try clear hfz14_1
      try clear hfz16_0
      try clear hfz16_1
      try clear hfz20_0
      try clear hfz20_1
      try clear hfz23_0
      try clear hfz23_1
      try clear hfz25_0
      try clear hfz25_1
      obtain ⟨kq, x46_6, rfl, HA, HJ6, BK171, BK172, BK173, HB⟩ := hcut
      cases kq with
      | zero => exact absurd HA.out (by simp [stipendlaw02_FracCompares.j0])
      | succ kj6 =>
        have H := HA.out
        clear HA
        simp only [stipendlaw02_FracCompares.j0] at H
        by_cases c26 : x46_6 = true
        · subst c26
          have H1 : (if t176 = 1 then (some (t175 == 0)) else (some false)) = some r := by rw [if_pos rfl] at H; exact H
          clear H
          have H := H1
          clear H1
          by_cases c27 : t176 = 1
          · rw [if_pos c27] at H
            have c27b0 : (t176 == 1) = true := beq_iff_eq.mpr c27
            have c27b1 : (t176 != 1) = false := bne_eq_false_iff_eq.mpr c27
            clear c27
            obtain rfl := Option.some.inj H
            go_wp2
            repeat (go_quiet (fail); try go_wp2)
            go_ret
            exact ⟨by first | rfl | (simp [errW_none, errW_some] <;> rfl) | (simp [*, errW_none, errW_some] <;> rfl), by repeat (first | (with_reducible first | exact HB.out | apply below_alloc | apply pw_below_drewN | apply below_drew1 | refine below_set ?_ GE171.out | refine below_set ?_ GE172.out | refine below_set ?_ GE173.out) | exact HB.out)⟩
          · rw [if_neg c27] at H
            have c27b0 : (t176 == 1) = false := beq_eq_false_iff_ne.mpr c27
            have c27b1 : (t176 != 1) = true := bne_iff_ne.mpr c27
            obtain rfl := Option.some.inj H
            go_wp2
            repeat (go_quiet (fail); try go_wp2)
            go_ret
            exact ⟨by first | rfl | (simp [errW_none, errW_some] <;> rfl) | (simp [*, errW_none, errW_some] <;> rfl), by repeat (first | (with_reducible first | exact HB.out | apply below_alloc | apply pw_below_drewN | apply below_drew1 | refine below_set ?_ GE171.out | refine below_set ?_ GE172.out | refine below_set ?_ GE173.out) | exact HB.out)⟩
        · replace c26 := Bool.eq_false_iff.mpr c26
          subst c26
          have H1 : ((frac_Compare.f kj6 a1_0 a1_1 a0_0 a0_1).bind fun bt177 => ((frac_Lowest.f kj6 a0_0 a0_1).bind fun bt179 => ((frac_Lowest.f kj6 a1_0 a1_1).bind fun bt182 => (if (wrap64 ((wrap64 ((wrap64 (t176 + bt177.2)) + bt179.2.2)) + bt182.2.2)) = 0 then (if t175 = (wrap64 (-bt177.1)) then (if t175 < (-1) then (stipendlaw02_FracCompares.j1 kj6 t175 bt179.1 bt179.2.1 true a0_0 a0_1 a1_0 a1_1 a2_0 a2_1) else (if t175 > 1 then (stipendlaw02_FracCompares.j1 kj6 t175 bt179.1 bt179.2.1 true a0_0 a0_1 a1_0 a1_1 a2_0 a2_1) else (if bt179.2.1 < 1 then (stipendlaw02_FracCompares.j1 kj6 t175 bt179.1 bt179.2.1 true a0_0 a0_1 a1_0 a1_1 a2_0 a2_1) else (if bt182.2.1 < 1 then (stipendlaw02_FracCompares.j1 kj6 t175 bt179.1 bt179.2.1 true a0_0 a0_1 a1_0 a1_1 a2_0 a2_1) else (if bt179.1 = bt182.1 then (stipendlaw02_FracCompares.j1 kj6 t175 bt179.1 bt179.2.1 ((t175 == 0) != (bt179.2.1 == bt182.2.1)) a0_0 a0_1 a1_0 a1_1 a2_0 a2_1) else (stipendlaw02_FracCompares.j1 kj6 t175 bt179.1 bt179.2.1 ((t175 == 0) != false) a0_0 a0_1 a1_0 a1_1 a2_0 a2_1)))))) else (stipendlaw02_FracCompares.j1 kj6 t175 bt179.1 bt179.2.1 true a0_0 a0_1 a1_0 a1_1 a2_0 a2_1)) else (stipendlaw02_FracCompares.j1 kj6 t175 bt179.1 bt179.2.1 true a0_0 a0_1 a1_0 a1_1 a2_0 a2_1))))) = some r := by rw [if_neg (show ¬ (false = true) by decide)] at H; exact H
          clear H
          have H := H1
          clear H1
          replace H := Option.bind_eq_some_iff.mp H
          obtain ⟨⟨t177, t178⟩, A280, H⟩ := H
          replace H : ((frac_Lowest.f kj6 a0_0 a0_1).bind fun bt179 => ((frac_Lowest.f kj6 a1_0 a1_1).bind fun bt182 => (if (wrap64 ((wrap64 ((wrap64 (t176 + t178)) + bt179.2.2)) + bt182.2.2)) = 0 then (if t175 = (wrap64 (-t177)) then (if t175 < (-1) then (stipendlaw02_FracCompares.j1 kj6 t175 bt179.1 bt179.2.1 true a0_0 a0_1 a1_0 a1_1 a2_0 a2_1) else (if t175 > 1 then (stipendlaw02_FracCompares.j1 kj6 t175 bt179.1 bt179.2.1 true a0_0 a0_1 a1_0 a1_1 a2_0 a2_1) else (if bt179.2.1 < 1 then (stipendlaw02_FracCompares.j1 kj6 t175 bt179.1 bt179.2.1 true a0_0 a0_1 a1_0 a1_1 a2_0 a2_1) else (if bt182.2.1 < 1 then (stipendlaw02_FracCompares.j1 kj6 t175 bt179.1 bt179.2.1 true a0_0 a0_1 a1_0 a1_1 a2_0 a2_1) else (if bt179.1 = bt182.1 then (stipendlaw02_FracCompares.j1 kj6 t175 bt179.1 bt179.2.1 ((t175 == 0) != (bt179.2.1 == bt182.2.1)) a0_0 a0_1 a1_0 a1_1 a2_0 a2_1) else (stipendlaw02_FracCompares.j1 kj6 t175 bt179.1 bt179.2.1 ((t175 == 0) != false) a0_0 a0_1 a1_0 a1_1 a2_0 a2_1)))))) else (stipendlaw02_FracCompares.j1 kj6 t175 bt179.1 bt179.2.1 true a0_0 a0_1 a1_0 a1_1 a2_0 a2_1)) else (stipendlaw02_FracCompares.j1 kj6 t175 bt179.1 bt179.2.1 true a0_0 a0_1 a1_0 a1_1 a2_0 a2_1)))) = some r := H
          have A28 := Aside0.mk A280
          clear A280
          replace H := Option.bind_eq_some_iff.mp H
          obtain ⟨⟨t179, t180, t181⟩, A290, H⟩ := H
          replace H : ((frac_Lowest.f kj6 a1_0 a1_1).bind fun bt182 => (if (wrap64 ((wrap64 ((wrap64 (t176 + t178)) + t181)) + bt182.2.2)) = 0 then (if t175 = (wrap64 (-t177)) then (if t175 < (-1) then (stipendlaw02_FracCompares.j1 kj6 t175 t179 t180 true a0_0 a0_1 a1_0 a1_1 a2_0 a2_1) else (if t175 > 1 then (stipendlaw02_FracCompares.j1 kj6 t175 t179 t180 true a0_0 a0_1 a1_0 a1_1 a2_0 a2_1) else (if t180 < 1 then (stipendlaw02_FracCompares.j1 kj6 t175 t179 t180 true a0_0 a0_1 a1_0 a1_1 a2_0 a2_1) else (if bt182.2.1 < 1 then (stipendlaw02_FracCompares.j1 kj6 t175 t179 t180 true a0_0 a0_1 a1_0 a1_1 a2_0 a2_1) else (if t179 = bt182.1 then (stipendlaw02_FracCompares.j1 kj6 t175 t179 t180 ((t175 == 0) != (t180 == bt182.2.1)) a0_0 a0_1 a1_0 a1_1 a2_0 a2_1) else (stipendlaw02_FracCompares.j1 kj6 t175 t179 t180 ((t175 == 0) != false) a0_0 a0_1 a1_0 a1_1 a2_0 a2_1)))))) else (stipendlaw02_FracCompares.j1 kj6 t175 t179 t180 true a0_0 a0_1 a1_0 a1_1 a2_0 a2_1)) else (stipendlaw02_FracCompares.j1 kj6 t175 t179 t180 true a0_0 a0_1 a1_0 a1_1 a2_0 a2_1))) = some r := H
          have A29 := Aside0.mk A290
          clear A290
          replace H := Option.bind_eq_some_iff.mp H
          obtain ⟨⟨t182, t183, t184⟩, A300, H⟩ := H
          replace H : (if (wrap64 ((wrap64 ((wrap64 (t176 + t178)) + t181)) + t184)) = 0 then (if t175 = (wrap64 (-t177)) then (if t175 < (-1) then (stipendlaw02_FracCompares.j1 kj6 t175 t179 t180 true a0_0 a0_1 a1_0 a1_1 a2_0 a2_1) else (if t175 > 1 then (stipendlaw02_FracCompares.j1 kj6 t175 t179 t180 true a0_0 a0_1 a1_0 a1_1 a2_0 a2_1) else (if t180 < 1 then (stipendlaw02_FracCompares.j1 kj6 t175 t179 t180 true a0_0 a0_1 a1_0 a1_1 a2_0 a2_1) else (if t183 < 1 then (stipendlaw02_FracCompares.j1 kj6 t175 t179 t180 true a0_0 a0_1 a1_0 a1_1 a2_0 a2_1) else (if t179 = t182 then (stipendlaw02_FracCompares.j1 kj6 t175 t179 t180 ((t175 == 0) != (t180 == t183)) a0_0 a0_1 a1_0 a1_1 a2_0 a2_1) else (stipendlaw02_FracCompares.j1 kj6 t175 t179 t180 ((t175 == 0) != false) a0_0 a0_1 a1_0 a1_1 a2_0 a2_1)))))) else (stipendlaw02_FracCompares.j1 kj6 t175 t179 t180 true a0_0 a0_1 a1_0 a1_1 a2_0 a2_1)) else (stipendlaw02_FracCompares.j1 kj6 t175 t179 t180 true a0_0 a0_1 a1_0 a1_1 a2_0 a2_1)) = some r := H
          have A30 := Aside0.mk A300
          clear A300
          have HC31 := Aside0.mk H
          clear H
          have hnb32 := NB172_171.out
          have hnc32 := NB171_172.out
          have hnb33 := NB172_173.out
          have hnc33 := NB173_172.out
          have hcz34_0 : wc.cell? ⟨gb172, 0, none⟩ = some (.int .i64 a1_0) := (blk_cell BK172.out 0).trans rfl
          have hcz34_1 : wc.cell? ⟨gb172, 1, none⟩ = some (.int .i64 a1_1) := (blk_cell BK172.out 1).trans rfl
          have hfz34_0 := blk_frozen BK172.out 0
          have hfz34_1 := blk_frozen BK172.out 1
          have hnb35 := NB171_173.out
          have hnc35 := NB173_171.out
          have hcz36_0 : wc.cell? ⟨gb171, 0, none⟩ = some (.int .i64 a0_0) := (blk_cell BK171.out 0).trans rfl
          have hcz36_1 : wc.cell? ⟨gb171, 1, none⟩ = some (.int .i64 a0_1) := (blk_cell BK171.out 1).trans rfl
          have hfz36_0 := blk_frozen BK171.out 0
          have hfz36_1 := blk_frozen BK171.out 1
          go_upto_region 9 with (first | (go_at_call 34; (with_reducible refine (frac_Compare.calls kj6 a1_0 a1_1 a0_0 a0_1 t177 t178 _ A28.out).mono ?_); rintro e w' ⟨rfl, ⟨nd, rfl⟩⟩; (try first | exact ⟨rfl, _, World.drewN_drewN _ _ _⟩ | exact ⟨rfl, _, Eq.trans (World.drewN_drewN _ _ _) (congrArg (World.drewN _) (Nat.add_assoc _ _ _))⟩)) | (go_at_call 35; (with_reducible refine (frac_Lowest.calls kj6 a0_0 a0_1 t179 t180 t181 _ A29.out).mono ?_); rintro e w' ⟨rfl, ⟨nd, rfl⟩⟩; (try first | exact ⟨rfl, _, World.drewN_drewN _ _ _⟩ | exact ⟨rfl, _, Eq.trans (World.drewN_drewN _ _ _) (congrArg (World.drewN _) (Nat.add_assoc _ _ _))⟩)) | (go_at_call 35; (with_reducible refine (frac_Lowest.calls kj6 a1_0 a1_1 t182 t183 t184 _ A30.out).mono ?_); rintro e w' ⟨rfl, ⟨nd, rfl⟩⟩; (try first | exact ⟨rfl, _, World.drewN_drewN _ _ _⟩ | exact ⟨rfl, _, Eq.trans (World.drewN_drewN _ _ _) (congrArg (World.drewN _) (Nat.add_assoc _ _ _))⟩)))
          repeat (go_quiet (first | (go_at_call 34; (with_reducible refine (frac_Compare.calls kj6 a1_0 a1_1 a0_0 a0_1 t177 t178 _ A28.out).mono ?_); rintro e w' ⟨rfl, ⟨nd, rfl⟩⟩; (try first | exact ⟨rfl, _, World.drewN_drewN _ _ _⟩ | exact ⟨rfl, _, Eq.trans (World.drewN_drewN _ _ _) (congrArg (World.drewN _) (Nat.add_assoc _ _ _))⟩)) | (go_at_call 35; (with_reducible refine (frac_Lowest.calls kj6 a0_0 a0_1 t179 t180 t181 _ A29.out).mono ?_); rintro e w' ⟨rfl, ⟨nd, rfl⟩⟩; (try first | exact ⟨rfl, _, World.drewN_drewN _ _ _⟩ | exact ⟨rfl, _, Eq.trans (World.drewN_drewN _ _ _) (congrArg (World.drewN _) (Nat.add_assoc _ _ _))⟩)) | (go_at_call 35; (with_reducible refine (frac_Lowest.calls kj6 a1_0 a1_1 t182 t183 t184 _ A30.out).mono ?_); rintro e w' ⟨rfl, ⟨nd, rfl⟩⟩; (try first | exact ⟨rfl, _, World.drewN_drewN _ _ _⟩ | exact ⟨rfl, _, Eq.trans (World.drewN_drewN _ _ _) (congrArg (World.drewN _) (Nat.add_assoc _ _ _))⟩))); go_upto_region 9 with (first | (go_at_call 34; (with_reducible refine (frac_Compare.calls kj6 a1_0 a1_1 a0_0 a0_1 t177 t178 _ A28.out).mono ?_); rintro e w' ⟨rfl, ⟨nd, rfl⟩⟩; (try first | exact ⟨rfl, _, World.drewN_drewN _ _ _⟩ | exact ⟨rfl, _, Eq.trans (World.drewN_drewN _ _ _) (congrArg (World.drewN _) (Nat.add_assoc _ _ _))⟩)) | (go_at_call 35; (with_reducible refine (frac_Lowest.calls kj6 a0_0 a0_1 t179 t180 t181 _ A29.out).mono ?_); rintro e w' ⟨rfl, ⟨nd, rfl⟩⟩; (try first | exact ⟨rfl, _, World.drewN_drewN _ _ _⟩ | exact ⟨rfl, _, Eq.trans (World.drewN_drewN _ _ _) (congrArg (World.drewN _) (Nat.add_assoc _ _ _))⟩)) | (go_at_call 35; (with_reducible refine (frac_Lowest.calls kj6 a1_0 a1_1 t182 t183 t184 _ A30.out).mono ?_); rintro e w' ⟨rfl, ⟨nd, rfl⟩⟩; (try first | exact ⟨rfl, _, World.drewN_drewN _ _ _⟩ | exact ⟨rfl, _, Eq.trans (World.drewN_drewN _ _ _) (congrArg (World.drewN _) (Nat.add_assoc _ _ _))⟩))))
          (try simp only [Act.put, List.setIfInBounds_toArray, List.set_cons_zero, List.set_cons_succ])
          go_cut [125] (fun v125 wc => ∃ (kq : Nat) (x125_30 : Bool), v125 = .bool x125_30 ∧ Aside0 (stipendlaw02_FracCompares.j1 kq t175 t179 t180 x125_30 a0_0 a0_1 a1_0 a1_1 a2_0 a2_1 = some r) ∧ Aside0 (kq ≤ kj6) ∧ Aside0 (wc.heap[gb171]? = some (.cells #[.int .i64 a0_0, .int .i64 a0_1] 75 (0, 0))) ∧ Aside0 (wc.heap[gb172]? = some (.cells #[.int .i64 a1_0, .int .i64 a1_1] 75 (0, 0))) ∧ Aside0 (wc.heap[gb173]? = some (.cells #[.int .i64 a2_0, .int .i64 a2_1] 75 (0, 0))) ∧ Aside0 (Below w.heap.size w wc))
          case first => as_aux_lemma =>
            have H := HC31.out
            clear HC31
            by_cases c37 : (wrap64 ((wrap64 ((wrap64 (t176 + t178)) + t181)) + t184)) = 0
            · rw [if_pos c37] at H
              have c37b0 : ((wrap64 ((wrap64 ((wrap64 (t176 + t178)) + t181)) + t184)) == 0) = true := beq_iff_eq.mpr c37
              have c37b1 : ((wrap64 ((wrap64 ((wrap64 (t176 + t178)) + t181)) + t184)) != 0) = false := bne_eq_false_iff_eq.mpr c37
              clear c37
              (first | rw [c37b0] | (simp only [i64_w, i32_w]; rw [c37b0]) | skip)
              by_cases c38 : t175 = (wrap64 (-t177))
              · rw [if_pos c38] at H
                have c38b0 : (t175 == (wrap64 (-t177))) = true := beq_iff_eq.mpr c38
                have c38b1 : (t175 != (wrap64 (-t177))) = false := bne_eq_false_iff_eq.mpr c38
                clear c38
                by_cases c39 : t175 < (-1)
                · rw [if_pos c39] at H
                  have c39b0 : decide (t175 < (-1)) = true := decide_eq_true c39
                  clear c39
                  have H' := Aside0.mk H
                  clear H
                  go_wp2
                  repeat (go_quiet (fail); try go_wp2)
                  go_meet
                  case rel => exact ⟨_, (true), (by first | rfl | (simp; done) | (simp [*]; done)), H', ⟨by have := HJ6.out; first | omega | exact Nat.le_refl _⟩, ⟨by (with_reducible repeat (first | refine blk_drewN ?_ _ | refine blk_drew ?_ | refine blk_alloc ?_ _)); exact BK171.out⟩, ⟨by (with_reducible repeat (first | refine blk_drewN ?_ _ | refine blk_drew ?_ | refine blk_alloc ?_ _)); exact BK172.out⟩, ⟨by (with_reducible repeat (first | refine blk_drewN ?_ _ | refine blk_drew ?_ | refine blk_alloc ?_ _)); exact BK173.out⟩, ⟨by repeat (first | (with_reducible first | exact HB.out | apply below_alloc | apply pw_below_drewN | apply below_drew1 | refine below_set ?_ GE171.out | refine below_set ?_ GE172.out | refine below_set ?_ GE173.out) | exact HB.out)⟩⟩
                · rw [if_neg c39] at H
                  have c39b0 : decide (t175 < (-1)) = false := decide_eq_false c39
                  clear c39
                  by_cases c40 : t175 > 1
                  · rw [if_pos c40] at H
                    have c40b0 : decide (1 < t175) = true := decide_eq_true c40
                    clear c40
                    have H' := Aside0.mk H
                    clear H
                    go_wp2
                    repeat (go_quiet (fail); try go_wp2)
                    go_meet
                    case rel => exact ⟨_, (true), (by first | rfl | (simp; done) | (simp [*]; done)), H', ⟨by have := HJ6.out; first | omega | exact Nat.le_refl _⟩, ⟨by (with_reducible repeat (first | refine blk_drewN ?_ _ | refine blk_drew ?_ | refine blk_alloc ?_ _)); exact BK171.out⟩, ⟨by (with_reducible repeat (first | refine blk_drewN ?_ _ | refine blk_drew ?_ | refine blk_alloc ?_ _)); exact BK172.out⟩, ⟨by (with_reducible repeat (first | refine blk_drewN ?_ _ | refine blk_drew ?_ | refine blk_alloc ?_ _)); exact BK173.out⟩, ⟨by repeat (first | (with_reducible first | exact HB.out | apply below_alloc | apply pw_below_drewN | apply below_drew1 | refine below_set ?_ GE171.out | refine below_set ?_ GE172.out | refine below_set ?_ GE173.out) | exact HB.out)⟩⟩
                  · rw [if_neg c40] at H
                    have c40b0 : decide (1 < t175) = false := decide_eq_false c40
                    clear c40
                    by_cases c41 : t180 < 1
                    · rw [if_pos c41] at H
                      have c41b0 : decide (t180 < 1) = true := decide_eq_true c41
                      clear c41
                      have H' := Aside0.mk H
                      clear H
                      go_wp2
                      repeat (go_quiet (fail); try go_wp2)
                      go_meet
                      case rel => exact ⟨_, (true), (by first | rfl | (simp; done) | (simp [*]; done)), H', ⟨by have := HJ6.out; first | omega | exact Nat.le_refl _⟩, ⟨by (with_reducible repeat (first | refine blk_drewN ?_ _ | refine blk_drew ?_ | refine blk_alloc ?_ _)); exact BK171.out⟩, ⟨by (with_reducible repeat (first | refine blk_drewN ?_ _ | refine blk_drew ?_ | refine blk_alloc ?_ _)); exact BK172.out⟩, ⟨by (with_reducible repeat (first | refine blk_drewN ?_ _ | refine blk_drew ?_ | refine blk_alloc ?_ _)); exact BK173.out⟩, ⟨by repeat (first | (with_reducible first | exact HB.out | apply below_alloc | apply pw_below_drewN | apply below_drew1 | refine below_set ?_ GE171.out | refine below_set ?_ GE172.out | refine below_set ?_ GE173.out) | exact HB.out)⟩⟩
                    · rw [if_neg c41] at H
                      have c41b0 : decide (t180 < 1) = false := decide_eq_false c41
                      clear c41
                      by_cases c42 : t183 < 1
                      · rw [if_pos c42] at H
                        have c42b0 : decide (t183 < 1) = true := decide_eq_true c42
                        clear c42
                        have H' := Aside0.mk H
                        clear H
                        go_wp2
                        repeat (go_quiet (fail); try go_wp2)
                        go_meet
                        case rel => exact ⟨_, (true), (by first | rfl | (simp; done) | (simp [*]; done)), H', ⟨by have := HJ6.out; first | omega | exact Nat.le_refl _⟩, ⟨by (with_reducible repeat (first | refine blk_drewN ?_ _ | refine blk_drew ?_ | refine blk_alloc ?_ _)); exact BK171.out⟩, ⟨by (with_reducible repeat (first | refine blk_drewN ?_ _ | refine blk_drew ?_ | refine blk_alloc ?_ _)); exact BK172.out⟩, ⟨by (with_reducible repeat (first | refine blk_drewN ?_ _ | refine blk_drew ?_ | refine blk_alloc ?_ _)); exact BK173.out⟩, ⟨by repeat (first | (with_reducible first | exact HB.out | apply below_alloc | apply pw_below_drewN | apply below_drew1 | refine below_set ?_ GE171.out | refine below_set ?_ GE172.out | refine below_set ?_ GE173.out) | exact HB.out)⟩⟩
                      · rw [if_neg c42] at H
                        have c42b0 : decide (t183 < 1) = false := decide_eq_false c42
                        clear c42
                        by_cases c43 : t179 = t182
                        · rw [if_pos c43] at H
                          have c43b0 : (t179 == t182) = true := beq_iff_eq.mpr c43
                          have c43b1 : (t179 != t182) = false := bne_eq_false_iff_eq.mpr c43
                          clear c43
                          have H' := Aside0.mk H
                          clear H
                          go_wp2
                          repeat (go_quiet (fail); try go_wp2)
                          go_meet
                          case rel => exact ⟨_, (((t175 == 0) != (t180 == t183))), (by first | rfl | (simp; done) | (simp [*]; done)), H', ⟨by have := HJ6.out; first | omega | exact Nat.le_refl _⟩, ⟨by (with_reducible repeat (first | refine blk_drewN ?_ _ | refine blk_drew ?_ | refine blk_alloc ?_ _)); exact BK171.out⟩, ⟨by (with_reducible repeat (first | refine blk_drewN ?_ _ | refine blk_drew ?_ | refine blk_alloc ?_ _)); exact BK172.out⟩, ⟨by (with_reducible repeat (first | refine blk_drewN ?_ _ | refine blk_drew ?_ | refine blk_alloc ?_ _)); exact BK173.out⟩, ⟨by repeat (first | (with_reducible first | exact HB.out | apply below_alloc | apply pw_below_drewN | apply below_drew1 | refine below_set ?_ GE171.out | refine below_set ?_ GE172.out | refine below_set ?_ GE173.out) | exact HB.out)⟩⟩
                        · rw [if_neg c43] at H
                          have c43b0 : (t179 == t182) = false := beq_eq_false_iff_ne.mpr c43
                          have c43b1 : (t179 != t182) = true := bne_iff_ne.mpr c43
                          have H' := Aside0.mk H
                          clear H
                          go_wp2
                          repeat (go_quiet (fail); try go_wp2)
                          go_meet
                          case rel => exact ⟨_, (((t175 == 0) != false)), (by first | rfl | (simp; done) | (simp [*]; done)), H', ⟨by have := HJ6.out; first | omega | exact Nat.le_refl _⟩, ⟨by (with_reducible repeat (first | refine blk_drewN ?_ _ | refine blk_drew ?_ | refine blk_alloc ?_ _)); exact BK171.out⟩, ⟨by (with_reducible repeat (first | refine blk_drewN ?_ _ | refine blk_drew ?_ | refine blk_alloc ?_ _)); exact BK172.out⟩, ⟨by (with_reducible repeat (first | refine blk_drewN ?_ _ | refine blk_drew ?_ | refine blk_alloc ?_ _)); exact BK173.out⟩, ⟨by repeat (first | (with_reducible first | exact HB.out | apply below_alloc | apply pw_below_drewN | apply below_drew1 | refine below_set ?_ GE171.out | refine below_set ?_ GE172.out | refine below_set ?_ GE173.out) | exact HB.out)⟩⟩
              · rw [if_neg c38] at H
                have c38b0 : (t175 == (wrap64 (-t177))) = false := beq_eq_false_iff_ne.mpr c38
                have c38b1 : (t175 != (wrap64 (-t177))) = true := bne_iff_ne.mpr c38
                have H' := Aside0.mk H
                clear H
                go_wp2
                repeat (go_quiet (fail); try go_wp2)
                go_meet
                case rel => exact ⟨_, (true), (by first | rfl | (simp; done) | (simp [*]; done)), H', ⟨by have := HJ6.out; first | omega | exact Nat.le_refl _⟩, ⟨by (with_reducible repeat (first | refine blk_drewN ?_ _ | refine blk_drew ?_ | refine blk_alloc ?_ _)); exact BK171.out⟩, ⟨by (with_reducible repeat (first | refine blk_drewN ?_ _ | refine blk_drew ?_ | refine blk_alloc ?_ _)); exact BK172.out⟩, ⟨by (with_reducible repeat (first | refine blk_drewN ?_ _ | refine blk_drew ?_ | refine blk_alloc ?_ _)); exact BK173.out⟩, ⟨by repeat (first | (with_reducible first | exact HB.out | apply below_alloc | apply pw_below_drewN | apply below_drew1 | refine below_set ?_ GE171.out | refine below_set ?_ GE172.out | refine below_set ?_ GE173.out) | exact HB.out)⟩⟩
            · rw [if_neg c37] at H
              have c37b0 : ((wrap64 ((wrap64 ((wrap64 (t176 + t178)) + t181)) + t184)) == 0) = false := beq_eq_false_iff_ne.mpr c37
              have c37b1 : ((wrap64 ((wrap64 ((wrap64 (t176 + t178)) + t181)) + t184)) != 0) = true := bne_iff_ne.mpr c37
              (first | rw [c37b0] | (simp only [i64_w, i32_w]; rw [c37b0]) | skip)
              have H' := Aside0.mk H
              clear H
              go_wp2
              repeat (go_quiet (fail); try go_wp2)
              go_meet
              case rel => exact ⟨_, (true), (by first | rfl | (simp; done) | (simp [*]; done)), H', ⟨by have := HJ6.out; first | omega | exact Nat.le_refl _⟩, ⟨by (with_reducible repeat (first | refine blk_drewN ?_ _ | refine blk_drew ?_ | refine blk_alloc ?_ _)); exact BK171.out⟩, ⟨by (with_reducible repeat (first | refine blk_drewN ?_ _ | refine blk_drew ?_ | refine blk_alloc ?_ _)); exact BK172.out⟩, ⟨by (with_reducible repeat (first | refine blk_drewN ?_ _ | refine blk_drew ?_ | refine blk_alloc ?_ _)); exact BK173.out⟩, ⟨by repeat (first | (with_reducible first | exact HB.out | apply below_alloc | apply pw_below_drewN | apply below_drew1 | refine below_set ?_ GE171.out | refine below_set ?_ GE172.out | refine below_set ?_ GE173.out) | exact HB.out)⟩⟩
          case rest => as_aux_lemma =>
            clear HC31
            try clear c1
            try clear c2
            try clear p2
            try clear c3
            try clear c4
            try clear c5
            try clear p6
            try clear c11
            try clear c12
            try clear c13
            try clear c15
            try clear c17
            try clear c17b0
            try clear c18
            try clear c19
            try clear c21
            try clear c22
            try clear c24
            try clear c26
            try clear c27
            try clear c27b0
            try clear c27b1
            try clear c32
            try clear c33
            try clear c35
            try clear c37
            try clear c37b0
            try clear c37b1
            try clear c38
            try clear c38b0
            try clear c38b1
            try clear c39
            try clear c39b0
            try clear c40
            try clear c40b0
            try clear c41
            try clear c41b0
            try clear c42
            try clear c42b0
            try clear c43
            try clear c43b0
            try clear c43b1
            try clear hcz14_0
            try clear hcz14_1
            try clear hcz16_0
            try clear hcz16_1
            try clear hcz20_0
            try clear hcz20_1
            try clear hcz23_0
            try clear hcz23_1
            try clear hcz25_0
            try clear hcz25_1
            try clear hcz34_0
            try clear hcz34_1
            try clear hcz36_0
            try clear hcz36_1
            try clear hfz14_0
            try clear hfz14_1
            try clear hfz16_0
            try clear hfz16_1
            try clear hfz20_0
            try clear hfz20_1
            try clear hfz23_0
            try clear hfz23_1
            try clear hfz25_0
            try clear hfz25_1
            try clear hfz34_0
            try clear hfz34_1
            try clear hfz36_0
            try clear hfz36_1
            try clear p2
            obtain ⟨kq, x125_30, rfl, HA, HJ30, BK171, BK172, BK173, HB⟩ := hcut
            cases kq with
            | zero => exact absurd HA.out (by simp [stipendlaw02_FracCompares.j1])
            | succ kj30 =>
              have H := HA.out
              clear HA
              simp only [stipendlaw02_FracCompares.j1] at H
              by_cases c44 : x125_30 = true
              · subst c44
                have H1 : (some false) = some r := by rw [if_pos rfl] at H; exact H
                clear H
                have H := H1
                clear H1
                obtain rfl := Option.some.inj H
                go_wp2
                repeat (go_quiet (fail); try go_wp2)
                go_ret
                exact ⟨by first | rfl | (simp [errW_none, errW_some] <;> rfl) | (simp [*, errW_none, errW_some] <;> rfl), by repeat (first | (with_reducible first | exact HB.out | apply below_alloc | apply pw_below_drewN | apply below_drew1 | refine below_set ?_ GE171.out | refine below_set ?_ GE172.out | refine below_set ?_ GE173.out) | exact HB.out)⟩
              · replace c44 := Bool.eq_false_iff.mpr c44
                subst c44
                have H1 : ((frac_Compare.f kj30 t179 t180 a0_0 a0_1).bind fun bt185 => (if bt185.1 = 0 then ((stipendlaw02_great.f a0_0).bind fun t187 => (if t187 = true then (stipendlaw02_FracCompares.j2 kj30 t175 false a0_0 a0_1 a1_0 a1_1 a2_0 a2_1) else ((stipendlaw02_great.f a1_0).bind fun t188 => (if t188 = true then (stipendlaw02_FracCompares.j2 kj30 t175 false a0_0 a0_1 a1_0 a1_1 a2_0 a2_1) else (if a0_1 < 1048576 then (if a1_1 < 1048576 then (if a0_0 < 1099511627776 then (if a0_0 > (-1099511627776) then (if a1_0 < 1099511627776 then (stipendlaw02_FracCompares.j2 kj30 t175 (decide (a1_0 > (-1099511627776))) a0_0 a0_1 a1_0 a1_1 a2_0 a2_1) else (stipendlaw02_FracCompares.j2 kj30 t175 false a0_0 a0_1 a1_0 a1_1 a2_0 a2_1)) else (stipendlaw02_FracCompares.j2 kj30 t175 false a0_0 a0_1 a1_0 a1_1 a2_0 a2_1)) else (stipendlaw02_FracCompares.j2 kj30 t175 false a0_0 a0_1 a1_0 a1_1 a2_0 a2_1)) else (stipendlaw02_FracCompares.j2 kj30 t175 false a0_0 a0_1 a1_0 a1_1 a2_0 a2_1)) else (stipendlaw02_FracCompares.j2 kj30 t175 false a0_0 a0_1 a1_0 a1_1 a2_0 a2_1)))))) else (some false))) = some r := by rw [if_neg (show ¬ (false = true) by decide)] at H; exact H
                clear H
                have H := H1
                clear H1
                replace H := Option.bind_eq_some_iff.mp H
                obtain ⟨⟨t185, t186⟩, A450, H⟩ := H
                replace H : (if t185 = 0 then ((stipendlaw02_great.f a0_0).bind fun t187 => (if t187 = true then (stipendlaw02_FracCompares.j2 kj30 t175 false a0_0 a0_1 a1_0 a1_1 a2_0 a2_1) else ((stipendlaw02_great.f a1_0).bind fun t188 => (if t188 = true then (stipendlaw02_FracCompares.j2 kj30 t175 false a0_0 a0_1 a1_0 a1_1 a2_0 a2_1) else (if a0_1 < 1048576 then (if a1_1 < 1048576 then (if a0_0 < 1099511627776 then (if a0_0 > (-1099511627776) then (if a1_0 < 1099511627776 then (stipendlaw02_FracCompares.j2 kj30 t175 (decide (a1_0 > (-1099511627776))) a0_0 a0_1 a1_0 a1_1 a2_0 a2_1) else (stipendlaw02_FracCompares.j2 kj30 t175 false a0_0 a0_1 a1_0 a1_1 a2_0 a2_1)) else (stipendlaw02_FracCompares.j2 kj30 t175 false a0_0 a0_1 a1_0 a1_1 a2_0 a2_1)) else (stipendlaw02_FracCompares.j2 kj30 t175 false a0_0 a0_1 a1_0 a1_1 a2_0 a2_1)) else (stipendlaw02_FracCompares.j2 kj30 t175 false a0_0 a0_1 a1_0 a1_1 a2_0 a2_1)) else (stipendlaw02_FracCompares.j2 kj30 t175 false a0_0 a0_1 a1_0 a1_1 a2_0 a2_1)))))) else (some false)) = some r := H
                have A45 := Aside0.mk A450
                clear A450
                by_cases c46 : t185 = 0
                · rw [if_pos c46] at H
                  have c46b0 : (t185 == 0) = true := beq_iff_eq.mpr c46
                  have c46b1 : (t185 != 0) = false := bne_eq_false_iff_eq.mpr c46
                  clear c46
                  have HC47 := Aside0.mk H
                  clear H
                  have hnb48 := NB171_172.out
                  have hnc48 := NB172_171.out
                  have hnb49 := NB171_173.out
                  have hnc49 := NB173_171.out
                  have hcz50_0 : wc.cell? ⟨gb171, 0, none⟩ = some (.int .i64 a0_0) := (blk_cell BK171.out 0).trans rfl
                  have hcz50_1 : wc.cell? ⟨gb171, 1, none⟩ = some (.int .i64 a0_1) := (blk_cell BK171.out 1).trans rfl
                  have hfz50_0 := blk_frozen BK171.out 0
                  have hfz50_1 := blk_frozen BK171.out 1
                  go_upto_region 14 with (first | (go_at_call 34; (with_reducible refine (frac_Compare.calls kj30 t179 t180 a0_0 a0_1 t185 t186 _ A45.out).mono ?_); rintro e w' ⟨rfl, ⟨nd, rfl⟩⟩; (try first | exact ⟨rfl, _, World.drewN_drewN _ _ _⟩ | exact ⟨rfl, _, Eq.trans (World.drewN_drewN _ _ _) (congrArg (World.drewN _) (Nat.add_assoc _ _ _))⟩)))
                  repeat (go_quiet (first | (go_at_call 34; (with_reducible refine (frac_Compare.calls kj30 t179 t180 a0_0 a0_1 t185 t186 _ A45.out).mono ?_); rintro e w' ⟨rfl, ⟨nd, rfl⟩⟩; (try first | exact ⟨rfl, _, World.drewN_drewN _ _ _⟩ | exact ⟨rfl, _, Eq.trans (World.drewN_drewN _ _ _) (congrArg (World.drewN _) (Nat.add_assoc _ _ _))⟩))); go_upto_region 14 with (first | (go_at_call 34; (with_reducible refine (frac_Compare.calls kj30 t179 t180 a0_0 a0_1 t185 t186 _ A45.out).mono ?_); rintro e w' ⟨rfl, ⟨nd, rfl⟩⟩; (try first | exact ⟨rfl, _, World.drewN_drewN _ _ _⟩ | exact ⟨rfl, _, Eq.trans (World.drewN_drewN _ _ _) (congrArg (World.drewN _) (Nat.add_assoc _ _ _))⟩))))
                  (try simp only [Act.put, List.setIfInBounds_toArray, List.set_cons_zero, List.set_cons_succ])
                  go_cut [177] (fun v177 wc => ∃ (kq : Nat) (x177_46 : Bool), v177 = .bool x177_46 ∧ Aside0 (stipendlaw02_FracCompares.j2 kq t175 x177_46 a0_0 a0_1 a1_0 a1_1 a2_0 a2_1 = some r) ∧ Aside0 (kq ≤ kj30) ∧ Aside0 (wc.heap[gb171]? = some (.cells #[.int .i64 a0_0, .int .i64 a0_1] 75 (0, 0))) ∧ Aside0 (wc.heap[gb172]? = some (.cells #[.int .i64 a1_0, .int .i64 a1_1] 75 (0, 0))) ∧ Aside0 (wc.heap[gb173]? = some (.cells #[.int .i64 a2_0, .int .i64 a2_1] 75 (0, 0))) ∧ Aside0 (Below w.heap.size w wc))
                  case first => as_aux_lemma =>
                    have H := HC47.out
                    clear HC47
                    replace H := Option.bind_eq_some_iff.mp H
                    obtain ⟨t187, A510, H⟩ := H
                    replace H : (if t187 = true then (stipendlaw02_FracCompares.j2 kj30 t175 false a0_0 a0_1 a1_0 a1_1 a2_0 a2_1) else ((stipendlaw02_great.f a1_0).bind fun t188 => (if t188 = true then (stipendlaw02_FracCompares.j2 kj30 t175 false a0_0 a0_1 a1_0 a1_1 a2_0 a2_1) else (if a0_1 < 1048576 then (if a1_1 < 1048576 then (if a0_0 < 1099511627776 then (if a0_0 > (-1099511627776) then (if a1_0 < 1099511627776 then (stipendlaw02_FracCompares.j2 kj30 t175 (decide (a1_0 > (-1099511627776))) a0_0 a0_1 a1_0 a1_1 a2_0 a2_1) else (stipendlaw02_FracCompares.j2 kj30 t175 false a0_0 a0_1 a1_0 a1_1 a2_0 a2_1)) else (stipendlaw02_FracCompares.j2 kj30 t175 false a0_0 a0_1 a1_0 a1_1 a2_0 a2_1)) else (stipendlaw02_FracCompares.j2 kj30 t175 false a0_0 a0_1 a1_0 a1_1 a2_0 a2_1)) else (stipendlaw02_FracCompares.j2 kj30 t175 false a0_0 a0_1 a1_0 a1_1 a2_0 a2_1)) else (stipendlaw02_FracCompares.j2 kj30 t175 false a0_0 a0_1 a1_0 a1_1 a2_0 a2_1))))) = some r := H
                    have A51 := Aside0.mk A510
                    clear A510
                    by_cases c52 : t187 = true
                    · subst c52
                      have H1 : (stipendlaw02_FracCompares.j2 kj30 t175 false a0_0 a0_1 a1_0 a1_1 a2_0 a2_1) = some r := by rw [if_pos rfl] at H; exact H
                      clear H
                      have H := H1
                      clear H1
                      have H' := Aside0.mk H
                      clear H
                      have hnb53 := NB171_172.out
                      have hnc53 := NB172_171.out
                      have hnb54 := NB171_173.out
                      have hnc54 := NB173_171.out
                      have hcz55_0 : wc.cell? ⟨gb171, 0, none⟩ = some (.int .i64 a0_0) := (blk_cell BK171.out 0).trans rfl
                      have hcz55_1 : wc.cell? ⟨gb171, 1, none⟩ = some (.int .i64 a0_1) := (blk_cell BK171.out 1).trans rfl
                      have hfz55_0 := blk_frozen BK171.out 0
                      have hfz55_1 := blk_frozen BK171.out 1
                      go_wp2_with (first | (go_at_call 32; (with_reducible refine (stipendlaw02_great.calls a0_0 true _ A51.out).mono ?_); rintro e w' ⟨rfl, ⟨nd, rfl⟩⟩; (try first | exact ⟨rfl, _, World.drewN_drewN _ _ _⟩ | exact ⟨rfl, _, Eq.trans (World.drewN_drewN _ _ _) (congrArg (World.drewN _) (Nat.add_assoc _ _ _))⟩)))
                      repeat (go_quiet (first | (go_at_call 32; (with_reducible refine (stipendlaw02_great.calls a0_0 true _ A51.out).mono ?_); rintro e w' ⟨rfl, ⟨nd, rfl⟩⟩; (try first | exact ⟨rfl, _, World.drewN_drewN _ _ _⟩ | exact ⟨rfl, _, Eq.trans (World.drewN_drewN _ _ _) (congrArg (World.drewN _) (Nat.add_assoc _ _ _))⟩))); try go_wp2_with (first | (go_at_call 32; (with_reducible refine (stipendlaw02_great.calls a0_0 true _ A51.out).mono ?_); rintro e w' ⟨rfl, ⟨nd, rfl⟩⟩; (try first | exact ⟨rfl, _, World.drewN_drewN _ _ _⟩ | exact ⟨rfl, _, Eq.trans (World.drewN_drewN _ _ _) (congrArg (World.drewN _) (Nat.add_assoc _ _ _))⟩))))
                      go_meet
                      case rel => exact ⟨_, (false), (by first | rfl | (simp; done) | (simp [*]; done)), H', ⟨by have := HJ6.out; have := HJ30.out; first | omega | exact Nat.le_refl _⟩, ⟨by (with_reducible repeat (first | refine blk_drewN ?_ _ | refine blk_drew ?_ | refine blk_alloc ?_ _)); exact BK171.out⟩, ⟨by (with_reducible repeat (first | refine blk_drewN ?_ _ | refine blk_drew ?_ | refine blk_alloc ?_ _)); exact BK172.out⟩, ⟨by (with_reducible repeat (first | refine blk_drewN ?_ _ | refine blk_drew ?_ | refine blk_alloc ?_ _)); exact BK173.out⟩, ⟨by repeat (first | (with_reducible first | exact HB.out | apply below_alloc | apply pw_below_drewN | apply below_drew1 | refine below_set ?_ GE171.out | refine below_set ?_ GE172.out | refine below_set ?_ GE173.out) | exact HB.out)⟩⟩
                    · replace c52 := Bool.eq_false_iff.mpr c52
                      subst c52
                      have H1 : ((stipendlaw02_great.f a1_0).bind fun t188 => (if t188 = true then (stipendlaw02_FracCompares.j2 kj30 t175 false a0_0 a0_1 a1_0 a1_1 a2_0 a2_1) else (if a0_1 < 1048576 then (if a1_1 < 1048576 then (if a0_0 < 1099511627776 then (if a0_0 > (-1099511627776) then (if a1_0 < 1099511627776 then (stipendlaw02_FracCompares.j2 kj30 t175 (decide (a1_0 > (-1099511627776))) a0_0 a0_1 a1_0 a1_1 a2_0 a2_1) else (stipendlaw02_FracCompares.j2 kj30 t175 false a0_0 a0_1 a1_0 a1_1 a2_0 a2_1)) else (stipendlaw02_FracCompares.j2 kj30 t175 false a0_0 a0_1 a1_0 a1_1 a2_0 a2_1)) else (stipendlaw02_FracCompares.j2 kj30 t175 false a0_0 a0_1 a1_0 a1_1 a2_0 a2_1)) else (stipendlaw02_FracCompares.j2 kj30 t175 false a0_0 a0_1 a1_0 a1_1 a2_0 a2_1)) else (stipendlaw02_FracCompares.j2 kj30 t175 false a0_0 a0_1 a1_0 a1_1 a2_0 a2_1)))) = some r := by rw [if_neg (show ¬ (false = true) by decide)] at H; exact H
                      clear H
                      have H := H1
                      clear H1
                      replace H := Option.bind_eq_some_iff.mp H
                      obtain ⟨t188, A560, H⟩ := H
                      replace H : (if t188 = true then (stipendlaw02_FracCompares.j2 kj30 t175 false a0_0 a0_1 a1_0 a1_1 a2_0 a2_1) else (if a0_1 < 1048576 then (if a1_1 < 1048576 then (if a0_0 < 1099511627776 then (if a0_0 > (-1099511627776) then (if a1_0 < 1099511627776 then (stipendlaw02_FracCompares.j2 kj30 t175 (decide (a1_0 > (-1099511627776))) a0_0 a0_1 a1_0 a1_1 a2_0 a2_1) else (stipendlaw02_FracCompares.j2 kj30 t175 false a0_0 a0_1 a1_0 a1_1 a2_0 a2_1)) else (stipendlaw02_FracCompares.j2 kj30 t175 false a0_0 a0_1 a1_0 a1_1 a2_0 a2_1)) else (stipendlaw02_FracCompares.j2 kj30 t175 false a0_0 a0_1 a1_0 a1_1 a2_0 a2_1)) else (stipendlaw02_FracCompares.j2 kj30 t175 false a0_0 a0_1 a1_0 a1_1 a2_0 a2_1)) else (stipendlaw02_FracCompares.j2 kj30 t175 false a0_0 a0_1 a1_0 a1_1 a2_0 a2_1))) = some r := H
                      have A56 := Aside0.mk A560
                      clear A560
                      by_cases c57 : t188 = true
                      · subst c57
                        have H1 : (stipendlaw02_FracCompares.j2 kj30 t175 false a0_0 a0_1 a1_0 a1_1 a2_0 a2_1) = some r := by rw [if_pos rfl] at H; exact H
                        clear H
                        have H := H1
                        clear H1
                        have H' := Aside0.mk H
                        clear H
                        have hnb58 := NB171_172.out
                        have hnc58 := NB172_171.out
                        have hnb59 := NB171_173.out
                        have hnc59 := NB173_171.out
                        have hcz60_0 : wc.cell? ⟨gb171, 0, none⟩ = some (.int .i64 a0_0) := (blk_cell BK171.out 0).trans rfl
                        have hcz60_1 : wc.cell? ⟨gb171, 1, none⟩ = some (.int .i64 a0_1) := (blk_cell BK171.out 1).trans rfl
                        have hfz60_0 := blk_frozen BK171.out 0
                        have hfz60_1 := blk_frozen BK171.out 1
                        go_wp2_with (first | (go_at_call 32; (with_reducible refine (stipendlaw02_great.calls a0_0 false _ A51.out).mono ?_); rintro e w' ⟨rfl, ⟨nd, rfl⟩⟩; (try first | exact ⟨rfl, _, World.drewN_drewN _ _ _⟩ | exact ⟨rfl, _, Eq.trans (World.drewN_drewN _ _ _) (congrArg (World.drewN _) (Nat.add_assoc _ _ _))⟩); have hnb61 := NB172_173.out; have hnc61 := NB173_172.out; have hcz62_0 : wc.cell? ⟨gb172, 0, none⟩ = some (.int .i64 a1_0) := (blk_cell BK172.out 0).trans rfl; have hcz62_1 : wc.cell? ⟨gb172, 1, none⟩ = some (.int .i64 a1_1) := (blk_cell BK172.out 1).trans rfl; have hfz62_0 := blk_frozen BK172.out 0; have hfz62_1 := blk_frozen BK172.out 1) | (go_at_call 32; (with_reducible refine (stipendlaw02_great.calls a1_0 true _ A56.out).mono ?_); rintro e w' ⟨rfl, ⟨nd, rfl⟩⟩; (try first | exact ⟨rfl, _, World.drewN_drewN _ _ _⟩ | exact ⟨rfl, _, Eq.trans (World.drewN_drewN _ _ _) (congrArg (World.drewN _) (Nat.add_assoc _ _ _))⟩)))
                        repeat (go_quiet (first | (go_at_call 32; (with_reducible refine (stipendlaw02_great.calls a0_0 false _ A51.out).mono ?_); rintro e w' ⟨rfl, ⟨nd, rfl⟩⟩; (try first | exact ⟨rfl, _, World.drewN_drewN _ _ _⟩ | exact ⟨rfl, _, Eq.trans (World.drewN_drewN _ _ _) (congrArg (World.drewN _) (Nat.add_assoc _ _ _))⟩); have hnb61 := NB172_173.out; have hnc61 := NB173_172.out; have hcz62_0 : wc.cell? ⟨gb172, 0, none⟩ = some (.int .i64 a1_0) := (blk_cell BK172.out 0).trans rfl; have hcz62_1 : wc.cell? ⟨gb172, 1, none⟩ = some (.int .i64 a1_1) := (blk_cell BK172.out 1).trans rfl; have hfz62_0 := blk_frozen BK172.out 0; have hfz62_1 := blk_frozen BK172.out 1) | (go_at_call 32; (with_reducible refine (stipendlaw02_great.calls a1_0 true _ A56.out).mono ?_); rintro e w' ⟨rfl, ⟨nd, rfl⟩⟩; (try first | exact ⟨rfl, _, World.drewN_drewN _ _ _⟩ | exact ⟨rfl, _, Eq.trans (World.drewN_drewN _ _ _) (congrArg (World.drewN _) (Nat.add_assoc _ _ _))⟩))); try go_wp2_with (first | (go_at_call 32; (with_reducible refine (stipendlaw02_great.calls a0_0 false _ A51.out).mono ?_); rintro e w' ⟨rfl, ⟨nd, rfl⟩⟩; (try first | exact ⟨rfl, _, World.drewN_drewN _ _ _⟩ | exact ⟨rfl, _, Eq.trans (World.drewN_drewN _ _ _) (congrArg (World.drewN _) (Nat.add_assoc _ _ _))⟩); have hnb61 := NB172_173.out; have hnc61 := NB173_172.out; have hcz62_0 : wc.cell? ⟨gb172, 0, none⟩ = some (.int .i64 a1_0) := (blk_cell BK172.out 0).trans rfl; have hcz62_1 : wc.cell? ⟨gb172, 1, none⟩ = some (.int .i64 a1_1) := (blk_cell BK172.out 1).trans rfl; have hfz62_0 := blk_frozen BK172.out 0; have hfz62_1 := blk_frozen BK172.out 1) | (go_at_call 32; (with_reducible refine (stipendlaw02_great.calls a1_0 true _ A56.out).mono ?_); rintro e w' ⟨rfl, ⟨nd, rfl⟩⟩; (try first | exact ⟨rfl, _, World.drewN_drewN _ _ _⟩ | exact ⟨rfl, _, Eq.trans (World.drewN_drewN _ _ _) (congrArg (World.drewN _) (Nat.add_assoc _ _ _))⟩))))
                        go_meet
                        case rel => exact ⟨_, (false), (by first | rfl | (simp; done) | (simp [*]; done)), H', ⟨by have := HJ6.out; have := HJ30.out; first | omega | exact Nat.le_refl _⟩, ⟨by (with_reducible repeat (first | refine blk_drewN ?_ _ | refine blk_drew ?_ | refine blk_alloc ?_ _)); exact BK171.out⟩, ⟨by (with_reducible repeat (first | refine blk_drewN ?_ _ | refine blk_drew ?_ | refine blk_alloc ?_ _)); exact BK172.out⟩, ⟨by (with_reducible repeat (first | refine blk_drewN ?_ _ | refine blk_drew ?_ | refine blk_alloc ?_ _)); exact BK173.out⟩, ⟨by repeat (first | (with_reducible first | exact HB.out | apply below_alloc | apply pw_below_drewN | apply below_drew1 | refine below_set ?_ GE171.out | refine below_set ?_ GE172.out | refine below_set ?_ GE173.out) | exact HB.out)⟩⟩
                      · replace c57 := Bool.eq_false_iff.mpr c57
                        subst c57
                        have H1 : (if a0_1 < 1048576 then (if a1_1 < 1048576 then (if a0_0 < 1099511627776 then (if a0_0 > (-1099511627776) then (if a1_0 < 1099511627776 then (stipendlaw02_FracCompares.j2 kj30 t175 (decide (a1_0 > (-1099511627776))) a0_0 a0_1 a1_0 a1_1 a2_0 a2_1) else (stipendlaw02_FracCompares.j2 kj30 t175 false a0_0 a0_1 a1_0 a1_1 a2_0 a2_1)) else (stipendlaw02_FracCompares.j2 kj30 t175 false a0_0 a0_1 a1_0 a1_1 a2_0 a2_1)) else (stipendlaw02_FracCompares.j2 kj30 t175 false a0_0 a0_1 a1_0 a1_1 a2_0 a2_1)) else (stipendlaw02_FracCompares.j2 kj30 t175 false a0_0 a0_1 a1_0 a1_1 a2_0 a2_1)) else (stipendlaw02_FracCompares.j2 kj30 t175 false a0_0 a0_1 a1_0 a1_1 a2_0 a2_1)) = some r := by rw [if_neg (show ¬ (false = true) by decide)] at H; exact H
                        clear H
                        have H := H1
                        clear H1
                        by_cases c63 : a0_1 < 1048576
                        · rw [if_pos c63] at H
                          have c63b0 : decide (a0_1 < 1048576) = true := decide_eq_true c63
                          clear c63
                          (first | rw [c63b0] | (simp only [i64_w, i32_w]; rw [c63b0]) | skip)
                          by_cases c64 : a1_1 < 1048576
                          · rw [if_pos c64] at H
                            have c64b0 : decide (a1_1 < 1048576) = true := decide_eq_true c64
                            clear c64
                            by_cases c65 : a0_0 < 1099511627776
                            · rw [if_pos c65] at H
                              have c65b0 : decide (a0_0 < 1099511627776) = true := decide_eq_true c65
                              clear c65
                              by_cases c66 : a0_0 > (-1099511627776)
                              · rw [if_pos c66] at H
                                have c66b0 : decide ((-1099511627776) < a0_0) = true := decide_eq_true c66
                                clear c66
                                by_cases c67 : a1_0 < 1099511627776
                                · rw [if_pos c67] at H
                                  have c67b0 : decide (a1_0 < 1099511627776) = true := decide_eq_true c67
                                  clear c67
                                  have H' := Aside0.mk H
                                  clear H
                                  have hnb68 := NB171_172.out
                                  have hnc68 := NB172_171.out
                                  have hnb69 := NB171_173.out
                                  have hnc69 := NB173_171.out
                                  have hcz70_0 : wc.cell? ⟨gb171, 0, none⟩ = some (.int .i64 a0_0) := (blk_cell BK171.out 0).trans rfl
                                  have hcz70_1 : wc.cell? ⟨gb171, 1, none⟩ = some (.int .i64 a0_1) := (blk_cell BK171.out 1).trans rfl
                                  have hfz70_0 := blk_frozen BK171.out 0
                                  have hfz70_1 := blk_frozen BK171.out 1
                                  go_wp2_with (first | (go_at_call 32; (with_reducible refine (stipendlaw02_great.calls a0_0 false _ A51.out).mono ?_); rintro e w' ⟨rfl, ⟨nd, rfl⟩⟩; (try first | exact ⟨rfl, _, World.drewN_drewN _ _ _⟩ | exact ⟨rfl, _, Eq.trans (World.drewN_drewN _ _ _) (congrArg (World.drewN _) (Nat.add_assoc _ _ _))⟩); have hnb71 := NB172_173.out; have hnc71 := NB173_172.out; have hcz72_0 : wc.cell? ⟨gb172, 0, none⟩ = some (.int .i64 a1_0) := (blk_cell BK172.out 0).trans rfl; have hcz72_1 : wc.cell? ⟨gb172, 1, none⟩ = some (.int .i64 a1_1) := (blk_cell BK172.out 1).trans rfl; have hfz72_0 := blk_frozen BK172.out 0; have hfz72_1 := blk_frozen BK172.out 1) | (go_at_call 32; (with_reducible refine (stipendlaw02_great.calls a1_0 false _ A56.out).mono ?_); rintro e w' ⟨rfl, ⟨nd, rfl⟩⟩; (try first | exact ⟨rfl, _, World.drewN_drewN _ _ _⟩ | exact ⟨rfl, _, Eq.trans (World.drewN_drewN _ _ _) (congrArg (World.drewN _) (Nat.add_assoc _ _ _))⟩)))
                                  repeat (go_quiet (first | (go_at_call 32; (with_reducible refine (stipendlaw02_great.calls a0_0 false _ A51.out).mono ?_); rintro e w' ⟨rfl, ⟨nd, rfl⟩⟩; (try first | exact ⟨rfl, _, World.drewN_drewN _ _ _⟩ | exact ⟨rfl, _, Eq.trans (World.drewN_drewN _ _ _) (congrArg (World.drewN _) (Nat.add_assoc _ _ _))⟩); have hnb71 := NB172_173.out; have hnc71 := NB173_172.out; have hcz72_0 : wc.cell? ⟨gb172, 0, none⟩ = some (.int .i64 a1_0) := (blk_cell BK172.out 0).trans rfl; have hcz72_1 : wc.cell? ⟨gb172, 1, none⟩ = some (.int .i64 a1_1) := (blk_cell BK172.out 1).trans rfl; have hfz72_0 := blk_frozen BK172.out 0; have hfz72_1 := blk_frozen BK172.out 1) | (go_at_call 32; (with_reducible refine (stipendlaw02_great.calls a1_0 false _ A56.out).mono ?_); rintro e w' ⟨rfl, ⟨nd, rfl⟩⟩; (try first | exact ⟨rfl, _, World.drewN_drewN _ _ _⟩ | exact ⟨rfl, _, Eq.trans (World.drewN_drewN _ _ _) (congrArg (World.drewN _) (Nat.add_assoc _ _ _))⟩))); try go_wp2_with (first | (go_at_call 32; (with_reducible refine (stipendlaw02_great.calls a0_0 false _ A51.out).mono ?_); rintro e w' ⟨rfl, ⟨nd, rfl⟩⟩; (try first | exact ⟨rfl, _, World.drewN_drewN _ _ _⟩ | exact ⟨rfl, _, Eq.trans (World.drewN_drewN _ _ _) (congrArg (World.drewN _) (Nat.add_assoc _ _ _))⟩); have hnb71 := NB172_173.out; have hnc71 := NB173_172.out; have hcz72_0 : wc.cell? ⟨gb172, 0, none⟩ = some (.int .i64 a1_0) := (blk_cell BK172.out 0).trans rfl; have hcz72_1 : wc.cell? ⟨gb172, 1, none⟩ = some (.int .i64 a1_1) := (blk_cell BK172.out 1).trans rfl; have hfz72_0 := blk_frozen BK172.out 0; have hfz72_1 := blk_frozen BK172.out 1) | (go_at_call 32; (with_reducible refine (stipendlaw02_great.calls a1_0 false _ A56.out).mono ?_); rintro e w' ⟨rfl, ⟨nd, rfl⟩⟩; (try first | exact ⟨rfl, _, World.drewN_drewN _ _ _⟩ | exact ⟨rfl, _, Eq.trans (World.drewN_drewN _ _ _) (congrArg (World.drewN _) (Nat.add_assoc _ _ _))⟩))))
                                  go_meet
                                  case rel => exact ⟨_, (decide (a1_0 > (-1099511627776))), (by first | rfl | (simp; done) | (simp [*]; done)), H', ⟨by have := HJ6.out; have := HJ30.out; first | omega | exact Nat.le_refl _⟩, ⟨by (with_reducible repeat (first | refine blk_drewN ?_ _ | refine blk_drew ?_ | refine blk_alloc ?_ _)); exact BK171.out⟩, ⟨by (with_reducible repeat (first | refine blk_drewN ?_ _ | refine blk_drew ?_ | refine blk_alloc ?_ _)); exact BK172.out⟩, ⟨by (with_reducible repeat (first | refine blk_drewN ?_ _ | refine blk_drew ?_ | refine blk_alloc ?_ _)); exact BK173.out⟩, ⟨by repeat (first | (with_reducible first | exact HB.out | apply below_alloc | apply pw_below_drewN | apply below_drew1 | refine below_set ?_ GE171.out | refine below_set ?_ GE172.out | refine below_set ?_ GE173.out) | exact HB.out)⟩⟩
                                · rw [if_neg c67] at H
                                  have c67b0 : decide (a1_0 < 1099511627776) = false := decide_eq_false c67
                                  clear c67
                                  have H' := Aside0.mk H
                                  clear H
                                  have hnb73 := NB171_172.out
                                  have hnc73 := NB172_171.out
                                  have hnb74 := NB171_173.out
                                  have hnc74 := NB173_171.out
                                  have hcz75_0 : wc.cell? ⟨gb171, 0, none⟩ = some (.int .i64 a0_0) := (blk_cell BK171.out 0).trans rfl
                                  have hcz75_1 : wc.cell? ⟨gb171, 1, none⟩ = some (.int .i64 a0_1) := (blk_cell BK171.out 1).trans rfl
                                  have hfz75_0 := blk_frozen BK171.out 0
                                  have hfz75_1 := blk_frozen BK171.out 1
                                  go_wp2_with (first | (go_at_call 32; (with_reducible refine (stipendlaw02_great.calls a0_0 false _ A51.out).mono ?_); rintro e w' ⟨rfl, ⟨nd, rfl⟩⟩; (try first | exact ⟨rfl, _, World.drewN_drewN _ _ _⟩ | exact ⟨rfl, _, Eq.trans (World.drewN_drewN _ _ _) (congrArg (World.drewN _) (Nat.add_assoc _ _ _))⟩); have hnb76 := NB172_173.out; have hnc76 := NB173_172.out; have hcz77_0 : wc.cell? ⟨gb172, 0, none⟩ = some (.int .i64 a1_0) := (blk_cell BK172.out 0).trans rfl; have hcz77_1 : wc.cell? ⟨gb172, 1, none⟩ = some (.int .i64 a1_1) := (blk_cell BK172.out 1).trans rfl; have hfz77_0 := blk_frozen BK172.out 0; have hfz77_1 := blk_frozen BK172.out 1) | (go_at_call 32; (with_reducible refine (stipendlaw02_great.calls a1_0 false _ A56.out).mono ?_); rintro e w' ⟨rfl, ⟨nd, rfl⟩⟩; (try first | exact ⟨rfl, _, World.drewN_drewN _ _ _⟩ | exact ⟨rfl, _, Eq.trans (World.drewN_drewN _ _ _) (congrArg (World.drewN _) (Nat.add_assoc _ _ _))⟩)))
                                  repeat (go_quiet (first | (go_at_call 32; (with_reducible refine (stipendlaw02_great.calls a0_0 false _ A51.out).mono ?_); rintro e w' ⟨rfl, ⟨nd, rfl⟩⟩; (try first | exact ⟨rfl, _, World.drewN_drewN _ _ _⟩ | exact ⟨rfl, _, Eq.trans (World.drewN_drewN _ _ _) (congrArg (World.drewN _) (Nat.add_assoc _ _ _))⟩); have hnb76 := NB172_173.out; have hnc76 := NB173_172.out; have hcz77_0 : wc.cell? ⟨gb172, 0, none⟩ = some (.int .i64 a1_0) := (blk_cell BK172.out 0).trans rfl; have hcz77_1 : wc.cell? ⟨gb172, 1, none⟩ = some (.int .i64 a1_1) := (blk_cell BK172.out 1).trans rfl; have hfz77_0 := blk_frozen BK172.out 0; have hfz77_1 := blk_frozen BK172.out 1) | (go_at_call 32; (with_reducible refine (stipendlaw02_great.calls a1_0 false _ A56.out).mono ?_); rintro e w' ⟨rfl, ⟨nd, rfl⟩⟩; (try first | exact ⟨rfl, _, World.drewN_drewN _ _ _⟩ | exact ⟨rfl, _, Eq.trans (World.drewN_drewN _ _ _) (congrArg (World.drewN _) (Nat.add_assoc _ _ _))⟩))); try go_wp2_with (first | (go_at_call 32; (with_reducible refine (stipendlaw02_great.calls a0_0 false _ A51.out).mono ?_); rintro e w' ⟨rfl, ⟨nd, rfl⟩⟩; (try first | exact ⟨rfl, _, World.drewN_drewN _ _ _⟩ | exact ⟨rfl, _, Eq.trans (World.drewN_drewN _ _ _) (congrArg (World.drewN _) (Nat.add_assoc _ _ _))⟩); have hnb76 := NB172_173.out; have hnc76 := NB173_172.out; have hcz77_0 : wc.cell? ⟨gb172, 0, none⟩ = some (.int .i64 a1_0) := (blk_cell BK172.out 0).trans rfl; have hcz77_1 : wc.cell? ⟨gb172, 1, none⟩ = some (.int .i64 a1_1) := (blk_cell BK172.out 1).trans rfl; have hfz77_0 := blk_frozen BK172.out 0; have hfz77_1 := blk_frozen BK172.out 1) | (go_at_call 32; (with_reducible refine (stipendlaw02_great.calls a1_0 false _ A56.out).mono ?_); rintro e w' ⟨rfl, ⟨nd, rfl⟩⟩; (try first | exact ⟨rfl, _, World.drewN_drewN _ _ _⟩ | exact ⟨rfl, _, Eq.trans (World.drewN_drewN _ _ _) (congrArg (World.drewN _) (Nat.add_assoc _ _ _))⟩))))
                                  go_meet
                                  case rel => exact ⟨_, (false), (by first | rfl | (simp; done) | (simp [*]; done)), H', ⟨by have := HJ6.out; have := HJ30.out; first | omega | exact Nat.le_refl _⟩, ⟨by (with_reducible repeat (first | refine blk_drewN ?_ _ | refine blk_drew ?_ | refine blk_alloc ?_ _)); exact BK171.out⟩, ⟨by (with_reducible repeat (first | refine blk_drewN ?_ _ | refine blk_drew ?_ | refine blk_alloc ?_ _)); exact BK172.out⟩, ⟨by (with_reducible repeat (first | refine blk_drewN ?_ _ | refine blk_drew ?_ | refine blk_alloc ?_ _)); exact BK173.out⟩, ⟨by repeat (first | (with_reducible first | exact HB.out | apply below_alloc | apply pw_below_drewN | apply below_drew1 | refine below_set ?_ GE171.out | refine below_set ?_ GE172.out | refine below_set ?_ GE173.out) | exact HB.out)⟩⟩
                              · rw [if_neg c66] at H
                                have c66b0 : decide ((-1099511627776) < a0_0) = false := decide_eq_false c66
                                clear c66
                                have H' := Aside0.mk H
                                clear H
                                have hnb78 := NB171_172.out
                                have hnc78 := NB172_171.out
                                have hnb79 := NB171_173.out
                                have hnc79 := NB173_171.out
                                have hcz80_0 : wc.cell? ⟨gb171, 0, none⟩ = some (.int .i64 a0_0) := (blk_cell BK171.out 0).trans rfl
                                have hcz80_1 : wc.cell? ⟨gb171, 1, none⟩ = some (.int .i64 a0_1) := (blk_cell BK171.out 1).trans rfl
                                have hfz80_0 := blk_frozen BK171.out 0
                                have hfz80_1 := blk_frozen BK171.out 1
                                go_wp2_with (first | (go_at_call 32; (with_reducible refine (stipendlaw02_great.calls a0_0 false _ A51.out).mono ?_); rintro e w' ⟨rfl, ⟨nd, rfl⟩⟩; (try first | exact ⟨rfl, _, World.drewN_drewN _ _ _⟩ | exact ⟨rfl, _, Eq.trans (World.drewN_drewN _ _ _) (congrArg (World.drewN _) (Nat.add_assoc _ _ _))⟩); have hnb81 := NB172_173.out; have hnc81 := NB173_172.out; have hcz82_0 : wc.cell? ⟨gb172, 0, none⟩ = some (.int .i64 a1_0) := (blk_cell BK172.out 0).trans rfl; have hcz82_1 : wc.cell? ⟨gb172, 1, none⟩ = some (.int .i64 a1_1) := (blk_cell BK172.out 1).trans rfl; have hfz82_0 := blk_frozen BK172.out 0; have hfz82_1 := blk_frozen BK172.out 1) | (go_at_call 32; (with_reducible refine (stipendlaw02_great.calls a1_0 false _ A56.out).mono ?_); rintro e w' ⟨rfl, ⟨nd, rfl⟩⟩; (try first | exact ⟨rfl, _, World.drewN_drewN _ _ _⟩ | exact ⟨rfl, _, Eq.trans (World.drewN_drewN _ _ _) (congrArg (World.drewN _) (Nat.add_assoc _ _ _))⟩)))
                                repeat (go_quiet (first | (go_at_call 32; (with_reducible refine (stipendlaw02_great.calls a0_0 false _ A51.out).mono ?_); rintro e w' ⟨rfl, ⟨nd, rfl⟩⟩; (try first | exact ⟨rfl, _, World.drewN_drewN _ _ _⟩ | exact ⟨rfl, _, Eq.trans (World.drewN_drewN _ _ _) (congrArg (World.drewN _) (Nat.add_assoc _ _ _))⟩); have hnb81 := NB172_173.out; have hnc81 := NB173_172.out; have hcz82_0 : wc.cell? ⟨gb172, 0, none⟩ = some (.int .i64 a1_0) := (blk_cell BK172.out 0).trans rfl; have hcz82_1 : wc.cell? ⟨gb172, 1, none⟩ = some (.int .i64 a1_1) := (blk_cell BK172.out 1).trans rfl; have hfz82_0 := blk_frozen BK172.out 0; have hfz82_1 := blk_frozen BK172.out 1) | (go_at_call 32; (with_reducible refine (stipendlaw02_great.calls a1_0 false _ A56.out).mono ?_); rintro e w' ⟨rfl, ⟨nd, rfl⟩⟩; (try first | exact ⟨rfl, _, World.drewN_drewN _ _ _⟩ | exact ⟨rfl, _, Eq.trans (World.drewN_drewN _ _ _) (congrArg (World.drewN _) (Nat.add_assoc _ _ _))⟩))); try go_wp2_with (first | (go_at_call 32; (with_reducible refine (stipendlaw02_great.calls a0_0 false _ A51.out).mono ?_); rintro e w' ⟨rfl, ⟨nd, rfl⟩⟩; (try first | exact ⟨rfl, _, World.drewN_drewN _ _ _⟩ | exact ⟨rfl, _, Eq.trans (World.drewN_drewN _ _ _) (congrArg (World.drewN _) (Nat.add_assoc _ _ _))⟩); have hnb81 := NB172_173.out; have hnc81 := NB173_172.out; have hcz82_0 : wc.cell? ⟨gb172, 0, none⟩ = some (.int .i64 a1_0) := (blk_cell BK172.out 0).trans rfl; have hcz82_1 : wc.cell? ⟨gb172, 1, none⟩ = some (.int .i64 a1_1) := (blk_cell BK172.out 1).trans rfl; have hfz82_0 := blk_frozen BK172.out 0; have hfz82_1 := blk_frozen BK172.out 1) | (go_at_call 32; (with_reducible refine (stipendlaw02_great.calls a1_0 false _ A56.out).mono ?_); rintro e w' ⟨rfl, ⟨nd, rfl⟩⟩; (try first | exact ⟨rfl, _, World.drewN_drewN _ _ _⟩ | exact ⟨rfl, _, Eq.trans (World.drewN_drewN _ _ _) (congrArg (World.drewN _) (Nat.add_assoc _ _ _))⟩))))
                                go_meet
                                case rel => exact ⟨_, (false), (by first | rfl | (simp; done) | (simp [*]; done)), H', ⟨by have := HJ6.out; have := HJ30.out; first | omega | exact Nat.le_refl _⟩, ⟨by (with_reducible repeat (first | refine blk_drewN ?_ _ | refine blk_drew ?_ | refine blk_alloc ?_ _)); exact BK171.out⟩, ⟨by (with_reducible repeat (first | refine blk_drewN ?_ _ | refine blk_drew ?_ | refine blk_alloc ?_ _)); exact BK172.out⟩, ⟨by (with_reducible repeat (first | refine blk_drewN ?_ _ | refine blk_drew ?_ | refine blk_alloc ?_ _)); exact BK173.out⟩, ⟨by repeat (first | (with_reducible first | exact HB.out | apply below_alloc | apply pw_below_drewN | apply below_drew1 | refine below_set ?_ GE171.out | refine below_set ?_ GE172.out | refine below_set ?_ GE173.out) | exact HB.out)⟩⟩
                            · rw [if_neg c65] at H
                              have c65b0 : decide (a0_0 < 1099511627776) = false := decide_eq_false c65
                              clear c65
                              have H' := Aside0.mk H
                              clear H
                              have hnb83 := NB171_172.out
                              have hnc83 := NB172_171.out
                              have hnb84 := NB171_173.out
                              have hnc84 := NB173_171.out
                              have hcz85_0 : wc.cell? ⟨gb171, 0, none⟩ = some (.int .i64 a0_0) := (blk_cell BK171.out 0).trans rfl
                              have hcz85_1 : wc.cell? ⟨gb171, 1, none⟩ = some (.int .i64 a0_1) := (blk_cell BK171.out 1).trans rfl
                              have hfz85_0 := blk_frozen BK171.out 0
                              have hfz85_1 := blk_frozen BK171.out 1
                              go_wp2_with (first | (go_at_call 32; (with_reducible refine (stipendlaw02_great.calls a0_0 false _ A51.out).mono ?_); rintro e w' ⟨rfl, ⟨nd, rfl⟩⟩; (try first | exact ⟨rfl, _, World.drewN_drewN _ _ _⟩ | exact ⟨rfl, _, Eq.trans (World.drewN_drewN _ _ _) (congrArg (World.drewN _) (Nat.add_assoc _ _ _))⟩); have hnb86 := NB172_173.out; have hnc86 := NB173_172.out; have hcz87_0 : wc.cell? ⟨gb172, 0, none⟩ = some (.int .i64 a1_0) := (blk_cell BK172.out 0).trans rfl; have hcz87_1 : wc.cell? ⟨gb172, 1, none⟩ = some (.int .i64 a1_1) := (blk_cell BK172.out 1).trans rfl; have hfz87_0 := blk_frozen BK172.out 0; have hfz87_1 := blk_frozen BK172.out 1) | (go_at_call 32; (with_reducible refine (stipendlaw02_great.calls a1_0 false _ A56.out).mono ?_); rintro e w' ⟨rfl, ⟨nd, rfl⟩⟩; (try first | exact ⟨rfl, _, World.drewN_drewN _ _ _⟩ | exact ⟨rfl, _, Eq.trans (World.drewN_drewN _ _ _) (congrArg (World.drewN _) (Nat.add_assoc _ _ _))⟩)))
                              repeat (go_quiet (first | (go_at_call 32; (with_reducible refine (stipendlaw02_great.calls a0_0 false _ A51.out).mono ?_); rintro e w' ⟨rfl, ⟨nd, rfl⟩⟩; (try first | exact ⟨rfl, _, World.drewN_drewN _ _ _⟩ | exact ⟨rfl, _, Eq.trans (World.drewN_drewN _ _ _) (congrArg (World.drewN _) (Nat.add_assoc _ _ _))⟩); have hnb86 := NB172_173.out; have hnc86 := NB173_172.out; have hcz87_0 : wc.cell? ⟨gb172, 0, none⟩ = some (.int .i64 a1_0) := (blk_cell BK172.out 0).trans rfl; have hcz87_1 : wc.cell? ⟨gb172, 1, none⟩ = some (.int .i64 a1_1) := (blk_cell BK172.out 1).trans rfl; have hfz87_0 := blk_frozen BK172.out 0; have hfz87_1 := blk_frozen BK172.out 1) | (go_at_call 32; (with_reducible refine (stipendlaw02_great.calls a1_0 false _ A56.out).mono ?_); rintro e w' ⟨rfl, ⟨nd, rfl⟩⟩; (try first | exact ⟨rfl, _, World.drewN_drewN _ _ _⟩ | exact ⟨rfl, _, Eq.trans (World.drewN_drewN _ _ _) (congrArg (World.drewN _) (Nat.add_assoc _ _ _))⟩))); try go_wp2_with (first | (go_at_call 32; (with_reducible refine (stipendlaw02_great.calls a0_0 false _ A51.out).mono ?_); rintro e w' ⟨rfl, ⟨nd, rfl⟩⟩; (try first | exact ⟨rfl, _, World.drewN_drewN _ _ _⟩ | exact ⟨rfl, _, Eq.trans (World.drewN_drewN _ _ _) (congrArg (World.drewN _) (Nat.add_assoc _ _ _))⟩); have hnb86 := NB172_173.out; have hnc86 := NB173_172.out; have hcz87_0 : wc.cell? ⟨gb172, 0, none⟩ = some (.int .i64 a1_0) := (blk_cell BK172.out 0).trans rfl; have hcz87_1 : wc.cell? ⟨gb172, 1, none⟩ = some (.int .i64 a1_1) := (blk_cell BK172.out 1).trans rfl; have hfz87_0 := blk_frozen BK172.out 0; have hfz87_1 := blk_frozen BK172.out 1) | (go_at_call 32; (with_reducible refine (stipendlaw02_great.calls a1_0 false _ A56.out).mono ?_); rintro e w' ⟨rfl, ⟨nd, rfl⟩⟩; (try first | exact ⟨rfl, _, World.drewN_drewN _ _ _⟩ | exact ⟨rfl, _, Eq.trans (World.drewN_drewN _ _ _) (congrArg (World.drewN _) (Nat.add_assoc _ _ _))⟩))))
                              go_meet
                              case rel => exact ⟨_, (false), (by first | rfl | (simp; done) | (simp [*]; done)), H', ⟨by have := HJ6.out; have := HJ30.out; first | omega | exact Nat.le_refl _⟩, ⟨by (with_reducible repeat (first | refine blk_drewN ?_ _ | refine blk_drew ?_ | refine blk_alloc ?_ _)); exact BK171.out⟩, ⟨by (with_reducible repeat (first | refine blk_drewN ?_ _ | refine blk_drew ?_ | refine blk_alloc ?_ _)); exact BK172.out⟩, ⟨by (with_reducible repeat (first | refine blk_drewN ?_ _ | refine blk_drew ?_ | refine blk_alloc ?_ _)); exact BK173.out⟩, ⟨by repeat (first | (with_reducible first | exact HB.out | apply below_alloc | apply pw_below_drewN | apply below_drew1 | refine below_set ?_ GE171.out | refine below_set ?_ GE172.out | refine below_set ?_ GE173.out) | exact HB.out)⟩⟩
                          · rw [if_neg c64] at H
                            have c64b0 : decide (a1_1 < 1048576) = false := decide_eq_false c64
                            clear c64
                            have H' := Aside0.mk H
                            clear H
                            have hnb88 := NB171_172.out
                            have hnc88 := NB172_171.out
                            have hnb89 := NB171_173.out
                            have hnc89 := NB173_171.out
                            have hcz90_0 : wc.cell? ⟨gb171, 0, none⟩ = some (.int .i64 a0_0) := (blk_cell BK171.out 0).trans rfl
                            have hcz90_1 : wc.cell? ⟨gb171, 1, none⟩ = some (.int .i64 a0_1) := (blk_cell BK171.out 1).trans rfl
                            have hfz90_0 := blk_frozen BK171.out 0
                            have hfz90_1 := blk_frozen BK171.out 1
                            go_wp2_with (first | (go_at_call 32; (with_reducible refine (stipendlaw02_great.calls a0_0 false _ A51.out).mono ?_); rintro e w' ⟨rfl, ⟨nd, rfl⟩⟩; (try first | exact ⟨rfl, _, World.drewN_drewN _ _ _⟩ | exact ⟨rfl, _, Eq.trans (World.drewN_drewN _ _ _) (congrArg (World.drewN _) (Nat.add_assoc _ _ _))⟩); have hnb91 := NB172_173.out; have hnc91 := NB173_172.out; have hcz92_0 : wc.cell? ⟨gb172, 0, none⟩ = some (.int .i64 a1_0) := (blk_cell BK172.out 0).trans rfl; have hcz92_1 : wc.cell? ⟨gb172, 1, none⟩ = some (.int .i64 a1_1) := (blk_cell BK172.out 1).trans rfl; have hfz92_0 := blk_frozen BK172.out 0; have hfz92_1 := blk_frozen BK172.out 1) | (go_at_call 32; (with_reducible refine (stipendlaw02_great.calls a1_0 false _ A56.out).mono ?_); rintro e w' ⟨rfl, ⟨nd, rfl⟩⟩; (try first | exact ⟨rfl, _, World.drewN_drewN _ _ _⟩ | exact ⟨rfl, _, Eq.trans (World.drewN_drewN _ _ _) (congrArg (World.drewN _) (Nat.add_assoc _ _ _))⟩)))
                            repeat (go_quiet (first | (go_at_call 32; (with_reducible refine (stipendlaw02_great.calls a0_0 false _ A51.out).mono ?_); rintro e w' ⟨rfl, ⟨nd, rfl⟩⟩; (try first | exact ⟨rfl, _, World.drewN_drewN _ _ _⟩ | exact ⟨rfl, _, Eq.trans (World.drewN_drewN _ _ _) (congrArg (World.drewN _) (Nat.add_assoc _ _ _))⟩); have hnb91 := NB172_173.out; have hnc91 := NB173_172.out; have hcz92_0 : wc.cell? ⟨gb172, 0, none⟩ = some (.int .i64 a1_0) := (blk_cell BK172.out 0).trans rfl; have hcz92_1 : wc.cell? ⟨gb172, 1, none⟩ = some (.int .i64 a1_1) := (blk_cell BK172.out 1).trans rfl; have hfz92_0 := blk_frozen BK172.out 0; have hfz92_1 := blk_frozen BK172.out 1) | (go_at_call 32; (with_reducible refine (stipendlaw02_great.calls a1_0 false _ A56.out).mono ?_); rintro e w' ⟨rfl, ⟨nd, rfl⟩⟩; (try first | exact ⟨rfl, _, World.drewN_drewN _ _ _⟩ | exact ⟨rfl, _, Eq.trans (World.drewN_drewN _ _ _) (congrArg (World.drewN _) (Nat.add_assoc _ _ _))⟩))); try go_wp2_with (first | (go_at_call 32; (with_reducible refine (stipendlaw02_great.calls a0_0 false _ A51.out).mono ?_); rintro e w' ⟨rfl, ⟨nd, rfl⟩⟩; (try first | exact ⟨rfl, _, World.drewN_drewN _ _ _⟩ | exact ⟨rfl, _, Eq.trans (World.drewN_drewN _ _ _) (congrArg (World.drewN _) (Nat.add_assoc _ _ _))⟩); have hnb91 := NB172_173.out; have hnc91 := NB173_172.out; have hcz92_0 : wc.cell? ⟨gb172, 0, none⟩ = some (.int .i64 a1_0) := (blk_cell BK172.out 0).trans rfl; have hcz92_1 : wc.cell? ⟨gb172, 1, none⟩ = some (.int .i64 a1_1) := (blk_cell BK172.out 1).trans rfl; have hfz92_0 := blk_frozen BK172.out 0; have hfz92_1 := blk_frozen BK172.out 1) | (go_at_call 32; (with_reducible refine (stipendlaw02_great.calls a1_0 false _ A56.out).mono ?_); rintro e w' ⟨rfl, ⟨nd, rfl⟩⟩; (try first | exact ⟨rfl, _, World.drewN_drewN _ _ _⟩ | exact ⟨rfl, _, Eq.trans (World.drewN_drewN _ _ _) (congrArg (World.drewN _) (Nat.add_assoc _ _ _))⟩))))
                            go_meet
                            case rel => exact ⟨_, (false), (by first | rfl | (simp; done) | (simp [*]; done)), H', ⟨by have := HJ6.out; have := HJ30.out; first | omega | exact Nat.le_refl _⟩, ⟨by (with_reducible repeat (first | refine blk_drewN ?_ _ | refine blk_drew ?_ | refine blk_alloc ?_ _)); exact BK171.out⟩, ⟨by (with_reducible repeat (first | refine blk_drewN ?_ _ | refine blk_drew ?_ | refine blk_alloc ?_ _)); exact BK172.out⟩, ⟨by (with_reducible repeat (first | refine blk_drewN ?_ _ | refine blk_drew ?_ | refine blk_alloc ?_ _)); exact BK173.out⟩, ⟨by repeat (first | (with_reducible first | exact HB.out | apply below_alloc | apply pw_below_drewN | apply below_drew1 | refine below_set ?_ GE171.out | refine below_set ?_ GE172.out | refine below_set ?_ GE173.out) | exact HB.out)⟩⟩
                        · rw [if_neg c63] at H
                          have c63b0 : decide (a0_1 < 1048576) = false := decide_eq_false c63
                          clear c63
                          (first | rw [c63b0] | (simp only [i64_w, i32_w]; rw [c63b0]) | skip)
                          have H' := Aside0.mk H
                          clear H
                          have hnb93 := NB171_172.out
                          have hnc93 := NB172_171.out
                          have hnb94 := NB171_173.out
                          have hnc94 := NB173_171.out
                          have hcz95_0 : wc.cell? ⟨gb171, 0, none⟩ = some (.int .i64 a0_0) := (blk_cell BK171.out 0).trans rfl
                          have hcz95_1 : wc.cell? ⟨gb171, 1, none⟩ = some (.int .i64 a0_1) := (blk_cell BK171.out 1).trans rfl
                          have hfz95_0 := blk_frozen BK171.out 0
                          have hfz95_1 := blk_frozen BK171.out 1
                          go_wp2_with (first | (go_at_call 32; (with_reducible refine (stipendlaw02_great.calls a0_0 false _ A51.out).mono ?_); rintro e w' ⟨rfl, ⟨nd, rfl⟩⟩; (try first | exact ⟨rfl, _, World.drewN_drewN _ _ _⟩ | exact ⟨rfl, _, Eq.trans (World.drewN_drewN _ _ _) (congrArg (World.drewN _) (Nat.add_assoc _ _ _))⟩); have hnb96 := NB172_173.out; have hnc96 := NB173_172.out; have hcz97_0 : wc.cell? ⟨gb172, 0, none⟩ = some (.int .i64 a1_0) := (blk_cell BK172.out 0).trans rfl; have hcz97_1 : wc.cell? ⟨gb172, 1, none⟩ = some (.int .i64 a1_1) := (blk_cell BK172.out 1).trans rfl; have hfz97_0 := blk_frozen BK172.out 0; have hfz97_1 := blk_frozen BK172.out 1) | (go_at_call 32; (with_reducible refine (stipendlaw02_great.calls a1_0 false _ A56.out).mono ?_); rintro e w' ⟨rfl, ⟨nd, rfl⟩⟩; (try first | exact ⟨rfl, _, World.drewN_drewN _ _ _⟩ | exact ⟨rfl, _, Eq.trans (World.drewN_drewN _ _ _) (congrArg (World.drewN _) (Nat.add_assoc _ _ _))⟩)))
                          repeat (go_quiet (first | (go_at_call 32; (with_reducible refine (stipendlaw02_great.calls a0_0 false _ A51.out).mono ?_); rintro e w' ⟨rfl, ⟨nd, rfl⟩⟩; (try first | exact ⟨rfl, _, World.drewN_drewN _ _ _⟩ | exact ⟨rfl, _, Eq.trans (World.drewN_drewN _ _ _) (congrArg (World.drewN _) (Nat.add_assoc _ _ _))⟩); have hnb96 := NB172_173.out; have hnc96 := NB173_172.out; have hcz97_0 : wc.cell? ⟨gb172, 0, none⟩ = some (.int .i64 a1_0) := (blk_cell BK172.out 0).trans rfl; have hcz97_1 : wc.cell? ⟨gb172, 1, none⟩ = some (.int .i64 a1_1) := (blk_cell BK172.out 1).trans rfl; have hfz97_0 := blk_frozen BK172.out 0; have hfz97_1 := blk_frozen BK172.out 1) | (go_at_call 32; (with_reducible refine (stipendlaw02_great.calls a1_0 false _ A56.out).mono ?_); rintro e w' ⟨rfl, ⟨nd, rfl⟩⟩; (try first | exact ⟨rfl, _, World.drewN_drewN _ _ _⟩ | exact ⟨rfl, _, Eq.trans (World.drewN_drewN _ _ _) (congrArg (World.drewN _) (Nat.add_assoc _ _ _))⟩))); try go_wp2_with (first | (go_at_call 32; (with_reducible refine (stipendlaw02_great.calls a0_0 false _ A51.out).mono ?_); rintro e w' ⟨rfl, ⟨nd, rfl⟩⟩; (try first | exact ⟨rfl, _, World.drewN_drewN _ _ _⟩ | exact ⟨rfl, _, Eq.trans (World.drewN_drewN _ _ _) (congrArg (World.drewN _) (Nat.add_assoc _ _ _))⟩); have hnb96 := NB172_173.out; have hnc96 := NB173_172.out; have hcz97_0 : wc.cell? ⟨gb172, 0, none⟩ = some (.int .i64 a1_0) := (blk_cell BK172.out 0).trans rfl; have hcz97_1 : wc.cell? ⟨gb172, 1, none⟩ = some (.int .i64 a1_1) := (blk_cell BK172.out 1).trans rfl; have hfz97_0 := blk_frozen BK172.out 0; have hfz97_1 := blk_frozen BK172.out 1) | (go_at_call 32; (with_reducible refine (stipendlaw02_great.calls a1_0 false _ A56.out).mono ?_); rintro e w' ⟨rfl, ⟨nd, rfl⟩⟩; (try first | exact ⟨rfl, _, World.drewN_drewN _ _ _⟩ | exact ⟨rfl, _, Eq.trans (World.drewN_drewN _ _ _) (congrArg (World.drewN _) (Nat.add_assoc _ _ _))⟩))))
                          go_meet
                          case rel => exact ⟨_, (false), (by first | rfl | (simp; done) | (simp [*]; done)), H', ⟨by have := HJ6.out; have := HJ30.out; first | omega | exact Nat.le_refl _⟩, ⟨by (with_reducible repeat (first | refine blk_drewN ?_ _ | refine blk_drew ?_ | refine blk_alloc ?_ _)); exact BK171.out⟩, ⟨by (with_reducible repeat (first | refine blk_drewN ?_ _ | refine blk_drew ?_ | refine blk_alloc ?_ _)); exact BK172.out⟩, ⟨by (with_reducible repeat (first | refine blk_drewN ?_ _ | refine blk_drew ?_ | refine blk_alloc ?_ _)); exact BK173.out⟩, ⟨by repeat (first | (with_reducible first | exact HB.out | apply below_alloc | apply pw_below_drewN | apply below_drew1 | refine below_set ?_ GE171.out | refine below_set ?_ GE172.out | refine below_set ?_ GE173.out) | exact HB.out)⟩⟩
                  case rest => as_aux_lemma =>
                    clear HC47
                    try clear c1
                    try clear c2
                    try clear p2
                    try clear c3
                    try clear c4
                    try clear c5
                    try clear c6
                    try clear p6
                    try clear c7
                    try clear c8
                    try clear c9
                    try clear c11
                    try clear c12
                    try clear c13
                    try clear c15
                    try clear c17
                    try clear c17b0
                    try clear c18
                    try clear c19
                    try clear c21
                    try clear c22
                    try clear c24
                    try clear c26
                    try clear c27
                    try clear c27b0
                    try clear c27b1
                    try clear c32
                    try clear c33
                    try clear c35
                    try clear c37
                    try clear c37b0
                    try clear c37b1
                    try clear c38
                    try clear c38b0
                    try clear c38b1
                    try clear c39
                    try clear c39b0
                    try clear c40
                    try clear c40b0
                    try clear c41
                    try clear c41b0
                    try clear c42
                    try clear c42b0
                    try clear c43
                    try clear c43b0
                    try clear c43b1
                    try clear c44
                    try clear c46
                    try clear c46b0
                    try clear c46b1
                    try clear c48
                    try clear c49
                    try clear c52
                    try clear c53
                    try clear c54
                    try clear c57
                    try clear c58
                    try clear c59
                    try clear c61
                    try clear c63
                    try clear c63b0
                    try clear c64
                    try clear c64b0
                    try clear p64
                    try clear c65
                    try clear c65b0
                    try clear c66
                    try clear c66b0
                    try clear c67
                    try clear c67b0
                    try clear c68
                    try clear c69
                    try clear c71
                    try clear c73
                    try clear c74
                    try clear c76
                    try clear c78
                    try clear c79
                    try clear c81
                    try clear c83
                    try clear c84
                    try clear c86
                    try clear c88
                    try clear c89
                    try clear c91
                    try clear c93
                    try clear c94
                    try clear c96
                    try clear hcz14_0
                    try clear hcz14_1
                    try clear hcz16_0
                    try clear hcz16_1
                    try clear hcz20_0
                    try clear hcz20_1
                    try clear hcz23_0
                    try clear hcz23_1
                    try clear hcz25_0
                    try clear hcz25_1
                    try clear hcz34_0
                    try clear hcz34_1
                    try clear hcz36_0
                    try clear hcz36_1
                    try clear hcz50_0
                    try clear hcz50_1
                    try clear hcz55_0
                    try clear hcz55_1
                    try clear hcz60_0
                    try clear hcz60_1
                    try clear hcz62_0
                    try clear hcz62_1
                    try clear hcz70_0
                    try clear hcz70_1
                    try clear hcz72_0
                    try clear hcz72_1
                    try clear hcz75_0
                    try clear hcz75_1
                    try clear hcz77_0
                    try clear hcz77_1
                    try clear hcz80_0
                    try clear hcz80_1
                    try clear hcz82_0
                    try clear hcz82_1
                    try clear hcz85_0
                    try clear hcz85_1
                    try clear hcz87_0
                    try clear hcz87_1
                    try clear hcz90_0
                    try clear hcz90_1
                    try clear hcz92_0
                    try clear hcz92_1
                    try clear hcz95_0
                    try clear hcz95_1
                    try clear hcz97_0
                    try clear hcz97_1
                    try clear hfz14_0
                    try clear hfz14_1
                    try clear hfz16_0
                    try clear hfz16_1
                    try clear hfz20_0
                    try clear hfz20_1
                    try clear hfz23_0
                    try clear hfz23_1
                    try clear hfz25_0
                    try clear hfz25_1
                    try clear hfz34_0
                    try clear hfz34_1
                    try clear hfz36_0
                    try clear hfz36_1
                    try clear hfz50_0
                    try clear hfz50_1
                    try clear hfz55_0
                    try clear hfz55_1
                    try clear hfz60_0
                    try clear hfz60_1
                    try clear hfz62_0
                    try clear hfz62_1
                    try clear hfz70_0
                    try clear hfz70_1
                    try clear hfz72_0
                    try clear hfz72_1
                    try clear hfz75_0
                    try clear hfz75_1
                    try clear hfz77_0
                    try clear hfz77_1
                    try clear hfz80_0
                    try clear hfz80_1
                    try clear hfz82_0
                    try clear hfz82_1
                    try clear hfz85_0
                    try clear hfz85_1
                    try clear hfz87_0
                    try clear hfz87_1
                    try clear hfz90_0
                    try clear hfz90_1
                    try clear hfz92_0
                    try clear hfz92_1
                    try clear hfz95_0
                    try clear hfz95_1
                    try clear hfz97_0
                    try clear hfz97_1
                    try clear p2
                    try clear p6
                    obtain ⟨kq, x177_46, rfl, HA, HJ46, BK171, BK172, BK173, HB⟩ := hcut
                    cases kq with
                    | zero => exact absurd HA.out (by simp [stipendlaw02_FracCompares.j2])
                    | succ kj46 =>
                      have H := HA.out
                      clear HA
                      simp only [stipendlaw02_FracCompares.j2] at H
                      by_cases c98 : x177_46 = true
                      · subst c98
                        have H1 : (if ((decide (t175 < 0)) != (decide ((wrap64 (a0_0 * a1_1)) < (wrap64 (a1_0 * a0_1))))) = true then (stipendlaw02_FracCompares.j3 kj46 t175 true a0_0 a0_1 a1_0 a1_1 a2_0 a2_1) else (stipendlaw02_FracCompares.j3 kj46 t175 ((decide (t175 > 0)) != (decide ((wrap64 (a0_0 * a1_1)) > (wrap64 (a1_0 * a0_1))))) a0_0 a0_1 a1_0 a1_1 a2_0 a2_1)) = some r := by rw [if_pos rfl] at H; exact H
                        clear H
                        have H := H1
                        clear H1
                        have HC99 := Aside0.mk H
                        clear H
                        have hnb100 := NB171_172.out
                        have hnc100 := NB172_171.out
                        have hnb101 := NB171_173.out
                        have hnc101 := NB173_171.out
                        have hcz102_0 : wc.cell? ⟨gb171, 0, none⟩ = some (.int .i64 a0_0) := (blk_cell BK171.out 0).trans rfl
                        have hcz102_1 : wc.cell? ⟨gb171, 1, none⟩ = some (.int .i64 a0_1) := (blk_cell BK171.out 1).trans rfl
                        have hfz102_0 := blk_frozen BK171.out 0
                        have hfz102_1 := blk_frozen BK171.out 1
                        have hnb103 := NB172_173.out
                        have hnc103 := NB173_172.out
                        have hcz104_0 : wc.cell? ⟨gb172, 0, none⟩ = some (.int .i64 a1_0) := (blk_cell BK172.out 0).trans rfl
                        have hcz104_1 : wc.cell? ⟨gb172, 1, none⟩ = some (.int .i64 a1_1) := (blk_cell BK172.out 1).trans rfl
                        have hfz104_0 := blk_frozen BK172.out 0
                        have hfz104_1 := blk_frozen BK172.out 1
                        go_upto_region 16 with (fail)
                        repeat (go_quiet (fail); go_upto_region 16 with (fail))
                        go_cut [201] (fun v201 wc => ∃ (kq : Nat) (x201_98 : Bool), v201 = .bool x201_98 ∧ Aside0 (stipendlaw02_FracCompares.j3 kq t175 x201_98 a0_0 a0_1 a1_0 a1_1 a2_0 a2_1 = some r) ∧ Aside0 (kq ≤ kj46) ∧ Aside0 (wc.heap[gb171]? = some (.cells #[.int .i64 a0_0, .int .i64 a0_1] 75 (0, 0))) ∧ Aside0 (wc.heap[gb172]? = some (.cells #[.int .i64 a1_0, .int .i64 a1_1] 75 (0, 0))) ∧ Aside0 (wc.heap[gb173]? = some (.cells #[.int .i64 a2_0, .int .i64 a2_1] 75 (0, 0))) ∧ Aside0 (Below w.heap.size w wc))
                        case first => as_aux_lemma =>
                          have H := HC99.out
                          clear HC99
                          by_cases c105 : ((decide (t175 < 0)) != (decide ((wrap64 (a0_0 * a1_1)) < (wrap64 (a1_0 * a0_1))))) = true
                          · rw [if_pos c105] at H
                            have c105b0 : ((decide (t175 < 0)) != (decide ((wrap64 (a0_0 * a1_1)) < (wrap64 (a1_0 * a0_1))))) = true := c105
                            (try (have c105b1 : decide ((decide (t175 < 0)) = (decide ((wrap64 (a0_0 * a1_1)) < (wrap64 (a1_0 * a0_1))))) = false := by simpa using c105))
                            (try (have c105b2 : ((decide (t175 < 0)) == (decide ((wrap64 (a0_0 * a1_1)) < (wrap64 (a1_0 * a0_1))))) = false := by simpa using c105))
                            (try (have c105b3 : ¬ ((decide (t175 < 0)) = (decide ((wrap64 (a0_0 * a1_1)) < (wrap64 (a1_0 * a0_1))))) := by simpa using c105))
                            clear c105
                            (first | rw [c105b0] | (simp only [i64_w, i32_w]; rw [c105b0]) | skip)
                            have H' := Aside0.mk H
                            clear H
                            go_wp2
                            repeat (go_quiet (fail); try go_wp2)
                            go_meet
                            case rel => exact ⟨_, (true), (by first | rfl | (simp; done) | (simp [*]; done)), H', ⟨by have := HJ6.out; have := HJ30.out; have := HJ46.out; first | omega | exact Nat.le_refl _⟩, ⟨by (with_reducible repeat (first | refine blk_drewN ?_ _ | refine blk_drew ?_ | refine blk_alloc ?_ _)); exact BK171.out⟩, ⟨by (with_reducible repeat (first | refine blk_drewN ?_ _ | refine blk_drew ?_ | refine blk_alloc ?_ _)); exact BK172.out⟩, ⟨by (with_reducible repeat (first | refine blk_drewN ?_ _ | refine blk_drew ?_ | refine blk_alloc ?_ _)); exact BK173.out⟩, ⟨by repeat (first | (with_reducible first | exact HB.out | apply below_alloc | apply pw_below_drewN | apply below_drew1 | refine below_set ?_ GE171.out | refine below_set ?_ GE172.out | refine below_set ?_ GE173.out) | exact HB.out)⟩⟩
                          · rw [if_neg c105] at H
                            have c105b0 : ((decide (t175 < 0)) != (decide ((wrap64 (a0_0 * a1_1)) < (wrap64 (a1_0 * a0_1))))) = false := by simpa using c105
                            (try (have c105b1 : decide ((decide (t175 < 0)) = (decide ((wrap64 (a0_0 * a1_1)) < (wrap64 (a1_0 * a0_1))))) = true := by simpa using c105))
                            (try (have c105b2 : ((decide (t175 < 0)) == (decide ((wrap64 (a0_0 * a1_1)) < (wrap64 (a1_0 * a0_1))))) = true := by simpa using c105))
                            clear c105
                            (first | rw [c105b0] | (simp only [i64_w, i32_w]; rw [c105b0]) | skip)
                            have H' := Aside0.mk H
                            clear H
                            go_wp2
                            repeat (go_quiet (fail); try go_wp2)
                            go_meet
                            case rel => exact ⟨_, (((decide (t175 > 0)) != (decide ((wrap64 (a0_0 * a1_1)) > (wrap64 (a1_0 * a0_1)))))), (by first | rfl | (simp; done) | (simp [*]; done)), H', ⟨by have := HJ6.out; have := HJ30.out; have := HJ46.out; first | omega | exact Nat.le_refl _⟩, ⟨by (with_reducible repeat (first | refine blk_drewN ?_ _ | refine blk_drew ?_ | refine blk_alloc ?_ _)); exact BK171.out⟩, ⟨by (with_reducible repeat (first | refine blk_drewN ?_ _ | refine blk_drew ?_ | refine blk_alloc ?_ _)); exact BK172.out⟩, ⟨by (with_reducible repeat (first | refine blk_drewN ?_ _ | refine blk_drew ?_ | refine blk_alloc ?_ _)); exact BK173.out⟩, ⟨by repeat (first | (with_reducible first | exact HB.out | apply below_alloc | apply pw_below_drewN | apply below_drew1 | refine below_set ?_ GE171.out | refine below_set ?_ GE172.out | refine below_set ?_ GE173.out) | exact HB.out)⟩⟩
                        case rest => as_aux_lemma =>
                          clear HC99
                          try clear c1
                          try clear c2
                          try clear p2
                          try clear c3
                          try clear c4
                          try clear c5
                          try clear c6
                          try clear p6
                          try clear c7
                          try clear c8
                          try clear c9
                          try clear c10
                          try clear c11
                          try clear c12
                          try clear c13
                          try clear c15
                          try clear c17
                          try clear c17b0
                          try clear c18
                          try clear c19
                          try clear c21
                          try clear c22
                          try clear c24
                          try clear c26
                          try clear c27
                          try clear c27b0
                          try clear c27b1
                          try clear c32
                          try clear c33
                          try clear c35
                          try clear c37
                          try clear c37b0
                          try clear c37b1
                          try clear c38
                          try clear c38b0
                          try clear c38b1
                          try clear c39
                          try clear c39b0
                          try clear c40
                          try clear c40b0
                          try clear c41
                          try clear c41b0
                          try clear c42
                          try clear c42b0
                          try clear c43
                          try clear c43b0
                          try clear c43b1
                          try clear c44
                          try clear c46
                          try clear c46b0
                          try clear c46b1
                          try clear c48
                          try clear c49
                          try clear c52
                          try clear c53
                          try clear c54
                          try clear c57
                          try clear c58
                          try clear c59
                          try clear c61
                          try clear c63
                          try clear c63b0
                          try clear c64
                          try clear c64b0
                          try clear p64
                          try clear c65
                          try clear c65b0
                          try clear c66
                          try clear c66b0
                          try clear c67
                          try clear c67b0
                          try clear c68
                          try clear c69
                          try clear c71
                          try clear c73
                          try clear c74
                          try clear c76
                          try clear c78
                          try clear c79
                          try clear c81
                          try clear c83
                          try clear c84
                          try clear c86
                          try clear c88
                          try clear c89
                          try clear c91
                          try clear c93
                          try clear c94
                          try clear c96
                          try clear c98
                          try clear c100
                          try clear c101
                          try clear c103
                          try clear c105
                          try clear c105b0
                          try clear c105b1
                          try clear c105b2
                          try clear hcz102_0
                          try clear hcz102_1
                          try clear hcz104_0
                          try clear hcz104_1
                          try clear hcz14_0
                          try clear hcz14_1
                          try clear hcz16_0
                          try clear hcz16_1
                          try clear hcz20_0
                          try clear hcz20_1
                          try clear hcz23_0
                          try clear hcz23_1
                          try clear hcz25_0
                          try clear hcz25_1
                          try clear hcz34_0
                          try clear hcz34_1
                          try clear hcz36_0
                          try clear hcz36_1
                          try clear hcz50_0
                          try clear hcz50_1
                          try clear hcz55_0
                          try clear hcz55_1
                          try clear hcz60_0
                          try clear hcz60_1
                          try clear hcz62_0
                          try clear hcz62_1
                          try clear hcz70_0
                          try clear hcz70_1
                          try clear hcz72_0
                          try clear hcz72_1
                          try clear hcz75_0
                          try clear hcz75_1
                          try clear hcz77_0
                          try clear hcz77_1
                          try clear hcz80_0
                          try clear hcz80_1
                          try clear hcz82_0
                          try clear hcz82_1
                          try clear hcz85_0
                          try clear hcz85_1
                          try clear hcz87_0
                          try clear hcz87_1
                          try clear hcz90_0
                          try clear hcz90_1
                          try clear hcz92_0
                          try clear hcz92_1
                          try clear hcz95_0
                          try clear hcz95_1
                          try clear hcz97_0
                          try clear hcz97_1
                          try clear hfz102_0
                          try clear hfz102_1
                          try clear hfz104_0
                          try clear hfz104_1
                          try clear hfz14_0
                          try clear hfz14_1
                          try clear hfz16_0
                          try clear hfz16_1
                          try clear hfz20_0
                          try clear hfz20_1
                          try clear hfz23_0
                          try clear hfz23_1
                          try clear hfz25_0
                          try clear hfz25_1
                          try clear hfz34_0
                          try clear hfz34_1
                          try clear hfz36_0
                          try clear hfz36_1
                          try clear hfz50_0
                          try clear hfz50_1
                          try clear hfz55_0
                          try clear hfz55_1
                          try clear hfz60_0
                          try clear hfz60_1
                          try clear hfz62_0
                          try clear hfz62_1
                          try clear hfz70_0
                          try clear hfz70_1
                          try clear hfz72_0
                          try clear hfz72_1
                          try clear hfz75_0
                          try clear hfz75_1
                          try clear hfz77_0
                          try clear hfz77_1
                          try clear hfz80_0
                          try clear hfz80_1
                          try clear hfz82_0
                          try clear hfz82_1
                          try clear hfz85_0
                          try clear hfz85_1
                          try clear hfz87_0
                          try clear hfz87_1
                          try clear hfz90_0
                          try clear hfz90_1
                          try clear hfz92_0
                          try clear hfz92_1
                          try clear hfz95_0
                          try clear hfz95_1
                          try clear hfz97_0
                          try clear hfz97_1
                          try clear p2
                          try clear p6
                          try clear p64
                          obtain ⟨kq, x201_98, rfl, HA, HJ98, BK171, BK172, BK173, HB⟩ := hcut
                          cases kq with
                          | zero => exact absurd HA.out (by simp [stipendlaw02_FracCompares.j3])
                          | succ kj98 =>
                            have H := HA.out
                            clear HA
                            simp only [stipendlaw02_FracCompares.j3] at H
                            by_cases c106 : x201_98 = true
                            · subst c106
                              have H1 : (some false) = some r := by rw [if_pos rfl] at H; exact H
                              clear H
                              have H := H1
                              clear H1
                              obtain rfl := Option.some.inj H
                              go_wp2
                              repeat (go_quiet (fail); try go_wp2)
                              go_ret
                              exact ⟨by first | rfl | (simp [errW_none, errW_some] <;> rfl) | (simp [*, errW_none, errW_some] <;> rfl), by repeat (first | (with_reducible first | exact HB.out | apply below_alloc | apply pw_below_drewN | apply below_drew1 | refine below_set ?_ GE171.out | refine below_set ?_ GE172.out | refine below_set ?_ GE173.out) | exact HB.out)⟩
                            · replace c106 := Bool.eq_false_iff.mpr c106
                              subst c106
                              have H1 : ((frac_Compare.f kj98 a1_0 a1_1 a2_0 a2_1).bind fun bt189 => ((frac_Compare.f kj98 a0_0 a0_1 a2_0 a2_1).bind fun bt191 => (if bt189.2 = 0 then (if t175 < 0 then (if bt189.1 < 0 then (some (decide (bt191.1 < 0))) else (some true)) else (some true)) else (some true)))) = some r := by rw [if_neg (show ¬ (false = true) by decide)] at H; exact H
                              clear H
                              have H := H1
                              clear H1
                              replace H := Option.bind_eq_some_iff.mp H
                              obtain ⟨⟨t189, t190⟩, A1070, H⟩ := H
                              replace H : ((frac_Compare.f kj98 a0_0 a0_1 a2_0 a2_1).bind fun bt191 => (if t190 = 0 then (if t175 < 0 then (if t189 < 0 then (some (decide (bt191.1 < 0))) else (some true)) else (some true)) else (some true))) = some r := H
                              have A107 := Aside0.mk A1070
                              clear A1070
                              replace H := Option.bind_eq_some_iff.mp H
                              obtain ⟨⟨t191, t192⟩, A1080, H⟩ := H
                              replace H : (if t190 = 0 then (if t175 < 0 then (if t189 < 0 then (some (decide (t191 < 0))) else (some true)) else (some true)) else (some true)) = some r := H
                              have A108 := Aside0.mk A1080
                              clear A1080
                              by_cases c109 : t190 = 0
                              · rw [if_pos c109] at H
                                have c109b0 : (t190 == 0) = true := beq_iff_eq.mpr c109
                                have c109b1 : (t190 != 0) = false := bne_eq_false_iff_eq.mpr c109
                                clear c109
                                by_cases c110 : t175 < 0
                                · rw [if_pos c110] at H
                                  have c110b0 : decide (t175 < 0) = true := decide_eq_true c110
                                  clear c110
                                  by_cases c111 : t189 < 0
                                  · rw [if_pos c111] at H
                                    have c111b0 : decide (t189 < 0) = true := decide_eq_true c111
                                    clear c111
                                    obtain rfl := Option.some.inj H
                                    have hnb112 := NB172_171.out
                                    have hnc112 := NB171_172.out
                                    have hnb113 := NB172_173.out
                                    have hnc113 := NB173_172.out
                                    have hcz114_0 : wc.cell? ⟨gb172, 0, none⟩ = some (.int .i64 a1_0) := (blk_cell BK172.out 0).trans rfl
                                    have hcz114_1 : wc.cell? ⟨gb172, 1, none⟩ = some (.int .i64 a1_1) := (blk_cell BK172.out 1).trans rfl
                                    have hfz114_0 := blk_frozen BK172.out 0
                                    have hfz114_1 := blk_frozen BK172.out 1
                                    have hnb115 := NB173_171.out
                                    have hnc115 := NB171_173.out
                                    have hcz116_0 : wc.cell? ⟨gb173, 0, none⟩ = some (.int .i64 a2_0) := (blk_cell BK173.out 0).trans rfl
                                    have hcz116_1 : wc.cell? ⟨gb173, 1, none⟩ = some (.int .i64 a2_1) := (blk_cell BK173.out 1).trans rfl
                                    have hfz116_0 := blk_frozen BK173.out 0
                                    have hfz116_1 := blk_frozen BK173.out 1
                                    go_wp2_with (first | (go_at_call 34; (with_reducible refine (frac_Compare.calls kj98 a1_0 a1_1 a2_0 a2_1 t189 t190 _ A107.out).mono ?_); rintro e w' ⟨rfl, ⟨nd, rfl⟩⟩; (try first | exact ⟨rfl, _, World.drewN_drewN _ _ _⟩ | exact ⟨rfl, _, Eq.trans (World.drewN_drewN _ _ _) (congrArg (World.drewN _) (Nat.add_assoc _ _ _))⟩); have hcz117_0 : wc.cell? ⟨gb171, 0, none⟩ = some (.int .i64 a0_0) := (blk_cell BK171.out 0).trans rfl; have hcz117_1 : wc.cell? ⟨gb171, 1, none⟩ = some (.int .i64 a0_1) := (blk_cell BK171.out 1).trans rfl; have hfz117_0 := blk_frozen BK171.out 0; have hfz117_1 := blk_frozen BK171.out 1) | (go_at_call 34; (with_reducible refine (frac_Compare.calls kj98 a0_0 a0_1 a2_0 a2_1 t191 t192 _ A108.out).mono ?_); rintro e w' ⟨rfl, ⟨nd, rfl⟩⟩; (try first | exact ⟨rfl, _, World.drewN_drewN _ _ _⟩ | exact ⟨rfl, _, Eq.trans (World.drewN_drewN _ _ _) (congrArg (World.drewN _) (Nat.add_assoc _ _ _))⟩)))
                                    repeat (go_quiet (first | (go_at_call 34; (with_reducible refine (frac_Compare.calls kj98 a1_0 a1_1 a2_0 a2_1 t189 t190 _ A107.out).mono ?_); rintro e w' ⟨rfl, ⟨nd, rfl⟩⟩; (try first | exact ⟨rfl, _, World.drewN_drewN _ _ _⟩ | exact ⟨rfl, _, Eq.trans (World.drewN_drewN _ _ _) (congrArg (World.drewN _) (Nat.add_assoc _ _ _))⟩); have hcz117_0 : wc.cell? ⟨gb171, 0, none⟩ = some (.int .i64 a0_0) := (blk_cell BK171.out 0).trans rfl; have hcz117_1 : wc.cell? ⟨gb171, 1, none⟩ = some (.int .i64 a0_1) := (blk_cell BK171.out 1).trans rfl; have hfz117_0 := blk_frozen BK171.out 0; have hfz117_1 := blk_frozen BK171.out 1) | (go_at_call 34; (with_reducible refine (frac_Compare.calls kj98 a0_0 a0_1 a2_0 a2_1 t191 t192 _ A108.out).mono ?_); rintro e w' ⟨rfl, ⟨nd, rfl⟩⟩; (try first | exact ⟨rfl, _, World.drewN_drewN _ _ _⟩ | exact ⟨rfl, _, Eq.trans (World.drewN_drewN _ _ _) (congrArg (World.drewN _) (Nat.add_assoc _ _ _))⟩))); try go_wp2_with (first | (go_at_call 34; (with_reducible refine (frac_Compare.calls kj98 a1_0 a1_1 a2_0 a2_1 t189 t190 _ A107.out).mono ?_); rintro e w' ⟨rfl, ⟨nd, rfl⟩⟩; (try first | exact ⟨rfl, _, World.drewN_drewN _ _ _⟩ | exact ⟨rfl, _, Eq.trans (World.drewN_drewN _ _ _) (congrArg (World.drewN _) (Nat.add_assoc _ _ _))⟩); have hcz117_0 : wc.cell? ⟨gb171, 0, none⟩ = some (.int .i64 a0_0) := (blk_cell BK171.out 0).trans rfl; have hcz117_1 : wc.cell? ⟨gb171, 1, none⟩ = some (.int .i64 a0_1) := (blk_cell BK171.out 1).trans rfl; have hfz117_0 := blk_frozen BK171.out 0; have hfz117_1 := blk_frozen BK171.out 1) | (go_at_call 34; (with_reducible refine (frac_Compare.calls kj98 a0_0 a0_1 a2_0 a2_1 t191 t192 _ A108.out).mono ?_); rintro e w' ⟨rfl, ⟨nd, rfl⟩⟩; (try first | exact ⟨rfl, _, World.drewN_drewN _ _ _⟩ | exact ⟨rfl, _, Eq.trans (World.drewN_drewN _ _ _) (congrArg (World.drewN _) (Nat.add_assoc _ _ _))⟩))))
                                    go_ret
                                    exact ⟨by first | rfl | (simp [errW_none, errW_some] <;> rfl) | (simp [*, errW_none, errW_some] <;> rfl), by repeat (first | (with_reducible first | exact HB.out | apply below_alloc | apply pw_below_drewN | apply below_drew1 | refine below_set ?_ GE171.out | refine below_set ?_ GE172.out | refine below_set ?_ GE173.out) | exact HB.out)⟩
                                  · rw [if_neg c111] at H
                                    have c111b0 : decide (t189 < 0) = false := decide_eq_false c111
                                    clear c111
                                    obtain rfl := Option.some.inj H
                                    have hnb118 := NB172_171.out
                                    have hnc118 := NB171_172.out
                                    have hnb119 := NB172_173.out
                                    have hnc119 := NB173_172.out
                                    have hcz120_0 : wc.cell? ⟨gb172, 0, none⟩ = some (.int .i64 a1_0) := (blk_cell BK172.out 0).trans rfl
                                    have hcz120_1 : wc.cell? ⟨gb172, 1, none⟩ = some (.int .i64 a1_1) := (blk_cell BK172.out 1).trans rfl
                                    have hfz120_0 := blk_frozen BK172.out 0
                                    have hfz120_1 := blk_frozen BK172.out 1
                                    have hnb121 := NB173_171.out
                                    have hnc121 := NB171_173.out
                                    have hcz122_0 : wc.cell? ⟨gb173, 0, none⟩ = some (.int .i64 a2_0) := (blk_cell BK173.out 0).trans rfl
                                    have hcz122_1 : wc.cell? ⟨gb173, 1, none⟩ = some (.int .i64 a2_1) := (blk_cell BK173.out 1).trans rfl
                                    have hfz122_0 := blk_frozen BK173.out 0
                                    have hfz122_1 := blk_frozen BK173.out 1
                                    go_wp2_with (first | (go_at_call 34; (with_reducible refine (frac_Compare.calls kj98 a1_0 a1_1 a2_0 a2_1 t189 t190 _ A107.out).mono ?_); rintro e w' ⟨rfl, ⟨nd, rfl⟩⟩; (try first | exact ⟨rfl, _, World.drewN_drewN _ _ _⟩ | exact ⟨rfl, _, Eq.trans (World.drewN_drewN _ _ _) (congrArg (World.drewN _) (Nat.add_assoc _ _ _))⟩); have hcz123_0 : wc.cell? ⟨gb171, 0, none⟩ = some (.int .i64 a0_0) := (blk_cell BK171.out 0).trans rfl; have hcz123_1 : wc.cell? ⟨gb171, 1, none⟩ = some (.int .i64 a0_1) := (blk_cell BK171.out 1).trans rfl; have hfz123_0 := blk_frozen BK171.out 0; have hfz123_1 := blk_frozen BK171.out 1) | (go_at_call 34; (with_reducible refine (frac_Compare.calls kj98 a0_0 a0_1 a2_0 a2_1 t191 t192 _ A108.out).mono ?_); rintro e w' ⟨rfl, ⟨nd, rfl⟩⟩; (try first | exact ⟨rfl, _, World.drewN_drewN _ _ _⟩ | exact ⟨rfl, _, Eq.trans (World.drewN_drewN _ _ _) (congrArg (World.drewN _) (Nat.add_assoc _ _ _))⟩)))
                                    repeat (go_quiet (first | (go_at_call 34; (with_reducible refine (frac_Compare.calls kj98 a1_0 a1_1 a2_0 a2_1 t189 t190 _ A107.out).mono ?_); rintro e w' ⟨rfl, ⟨nd, rfl⟩⟩; (try first | exact ⟨rfl, _, World.drewN_drewN _ _ _⟩ | exact ⟨rfl, _, Eq.trans (World.drewN_drewN _ _ _) (congrArg (World.drewN _) (Nat.add_assoc _ _ _))⟩); have hcz123_0 : wc.cell? ⟨gb171, 0, none⟩ = some (.int .i64 a0_0) := (blk_cell BK171.out 0).trans rfl; have hcz123_1 : wc.cell? ⟨gb171, 1, none⟩ = some (.int .i64 a0_1) := (blk_cell BK171.out 1).trans rfl; have hfz123_0 := blk_frozen BK171.out 0; have hfz123_1 := blk_frozen BK171.out 1) | (go_at_call 34; (with_reducible refine (frac_Compare.calls kj98 a0_0 a0_1 a2_0 a2_1 t191 t192 _ A108.out).mono ?_); rintro e w' ⟨rfl, ⟨nd, rfl⟩⟩; (try first | exact ⟨rfl, _, World.drewN_drewN _ _ _⟩ | exact ⟨rfl, _, Eq.trans (World.drewN_drewN _ _ _) (congrArg (World.drewN _) (Nat.add_assoc _ _ _))⟩))); try go_wp2_with (first | (go_at_call 34; (with_reducible refine (frac_Compare.calls kj98 a1_0 a1_1 a2_0 a2_1 t189 t190 _ A107.out).mono ?_); rintro e w' ⟨rfl, ⟨nd, rfl⟩⟩; (try first | exact ⟨rfl, _, World.drewN_drewN _ _ _⟩ | exact ⟨rfl, _, Eq.trans (World.drewN_drewN _ _ _) (congrArg (World.drewN _) (Nat.add_assoc _ _ _))⟩); have hcz123_0 : wc.cell? ⟨gb171, 0, none⟩ = some (.int .i64 a0_0) := (blk_cell BK171.out 0).trans rfl; have hcz123_1 : wc.cell? ⟨gb171, 1, none⟩ = some (.int .i64 a0_1) := (blk_cell BK171.out 1).trans rfl; have hfz123_0 := blk_frozen BK171.out 0; have hfz123_1 := blk_frozen BK171.out 1) | (go_at_call 34; (with_reducible refine (frac_Compare.calls kj98 a0_0 a0_1 a2_0 a2_1 t191 t192 _ A108.out).mono ?_); rintro e w' ⟨rfl, ⟨nd, rfl⟩⟩; (try first | exact ⟨rfl, _, World.drewN_drewN _ _ _⟩ | exact ⟨rfl, _, Eq.trans (World.drewN_drewN _ _ _) (congrArg (World.drewN _) (Nat.add_assoc _ _ _))⟩))))
                                    go_ret
                                    exact ⟨by first | rfl | (simp [errW_none, errW_some] <;> rfl) | (simp [*, errW_none, errW_some] <;> rfl), by repeat (first | (with_reducible first | exact HB.out | apply below_alloc | apply pw_below_drewN | apply below_drew1 | refine below_set ?_ GE171.out | refine below_set ?_ GE172.out | refine below_set ?_ GE173.out) | exact HB.out)⟩
                                · rw [if_neg c110] at H
                                  have c110b0 : decide (t175 < 0) = false := decide_eq_false c110
                                  clear c110
                                  obtain rfl := Option.some.inj H
                                  have hnb124 := NB172_171.out
                                  have hnc124 := NB171_172.out
                                  have hnb125 := NB172_173.out
                                  have hnc125 := NB173_172.out
                                  have hcz126_0 : wc.cell? ⟨gb172, 0, none⟩ = some (.int .i64 a1_0) := (blk_cell BK172.out 0).trans rfl
                                  have hcz126_1 : wc.cell? ⟨gb172, 1, none⟩ = some (.int .i64 a1_1) := (blk_cell BK172.out 1).trans rfl
                                  have hfz126_0 := blk_frozen BK172.out 0
                                  have hfz126_1 := blk_frozen BK172.out 1
                                  have hnb127 := NB173_171.out
                                  have hnc127 := NB171_173.out
                                  have hcz128_0 : wc.cell? ⟨gb173, 0, none⟩ = some (.int .i64 a2_0) := (blk_cell BK173.out 0).trans rfl
                                  have hcz128_1 : wc.cell? ⟨gb173, 1, none⟩ = some (.int .i64 a2_1) := (blk_cell BK173.out 1).trans rfl
                                  have hfz128_0 := blk_frozen BK173.out 0
                                  have hfz128_1 := blk_frozen BK173.out 1
                                  go_wp2_with (first | (go_at_call 34; (with_reducible refine (frac_Compare.calls kj98 a1_0 a1_1 a2_0 a2_1 t189 t190 _ A107.out).mono ?_); rintro e w' ⟨rfl, ⟨nd, rfl⟩⟩; (try first | exact ⟨rfl, _, World.drewN_drewN _ _ _⟩ | exact ⟨rfl, _, Eq.trans (World.drewN_drewN _ _ _) (congrArg (World.drewN _) (Nat.add_assoc _ _ _))⟩); have hcz129_0 : wc.cell? ⟨gb171, 0, none⟩ = some (.int .i64 a0_0) := (blk_cell BK171.out 0).trans rfl; have hcz129_1 : wc.cell? ⟨gb171, 1, none⟩ = some (.int .i64 a0_1) := (blk_cell BK171.out 1).trans rfl; have hfz129_0 := blk_frozen BK171.out 0; have hfz129_1 := blk_frozen BK171.out 1) | (go_at_call 34; (with_reducible refine (frac_Compare.calls kj98 a0_0 a0_1 a2_0 a2_1 t191 t192 _ A108.out).mono ?_); rintro e w' ⟨rfl, ⟨nd, rfl⟩⟩; (try first | exact ⟨rfl, _, World.drewN_drewN _ _ _⟩ | exact ⟨rfl, _, Eq.trans (World.drewN_drewN _ _ _) (congrArg (World.drewN _) (Nat.add_assoc _ _ _))⟩)))
                                  repeat (go_quiet (first | (go_at_call 34; (with_reducible refine (frac_Compare.calls kj98 a1_0 a1_1 a2_0 a2_1 t189 t190 _ A107.out).mono ?_); rintro e w' ⟨rfl, ⟨nd, rfl⟩⟩; (try first | exact ⟨rfl, _, World.drewN_drewN _ _ _⟩ | exact ⟨rfl, _, Eq.trans (World.drewN_drewN _ _ _) (congrArg (World.drewN _) (Nat.add_assoc _ _ _))⟩); have hcz129_0 : wc.cell? ⟨gb171, 0, none⟩ = some (.int .i64 a0_0) := (blk_cell BK171.out 0).trans rfl; have hcz129_1 : wc.cell? ⟨gb171, 1, none⟩ = some (.int .i64 a0_1) := (blk_cell BK171.out 1).trans rfl; have hfz129_0 := blk_frozen BK171.out 0; have hfz129_1 := blk_frozen BK171.out 1) | (go_at_call 34; (with_reducible refine (frac_Compare.calls kj98 a0_0 a0_1 a2_0 a2_1 t191 t192 _ A108.out).mono ?_); rintro e w' ⟨rfl, ⟨nd, rfl⟩⟩; (try first | exact ⟨rfl, _, World.drewN_drewN _ _ _⟩ | exact ⟨rfl, _, Eq.trans (World.drewN_drewN _ _ _) (congrArg (World.drewN _) (Nat.add_assoc _ _ _))⟩))); try go_wp2_with (first | (go_at_call 34; (with_reducible refine (frac_Compare.calls kj98 a1_0 a1_1 a2_0 a2_1 t189 t190 _ A107.out).mono ?_); rintro e w' ⟨rfl, ⟨nd, rfl⟩⟩; (try first | exact ⟨rfl, _, World.drewN_drewN _ _ _⟩ | exact ⟨rfl, _, Eq.trans (World.drewN_drewN _ _ _) (congrArg (World.drewN _) (Nat.add_assoc _ _ _))⟩); have hcz129_0 : wc.cell? ⟨gb171, 0, none⟩ = some (.int .i64 a0_0) := (blk_cell BK171.out 0).trans rfl; have hcz129_1 : wc.cell? ⟨gb171, 1, none⟩ = some (.int .i64 a0_1) := (blk_cell BK171.out 1).trans rfl; have hfz129_0 := blk_frozen BK171.out 0; have hfz129_1 := blk_frozen BK171.out 1) | (go_at_call 34; (with_reducible refine (frac_Compare.calls kj98 a0_0 a0_1 a2_0 a2_1 t191 t192 _ A108.out).mono ?_); rintro e w' ⟨rfl, ⟨nd, rfl⟩⟩; (try first | exact ⟨rfl, _, World.drewN_drewN _ _ _⟩ | exact ⟨rfl, _, Eq.trans (World.drewN_drewN _ _ _) (congrArg (World.drewN _) (Nat.add_assoc _ _ _))⟩))))
                                  go_ret
                                  exact ⟨by first | rfl | (simp [errW_none, errW_some] <;> rfl) | (simp [*, errW_none, errW_some] <;> rfl), by repeat (first | (with_reducible first | exact HB.out | apply below_alloc | apply pw_below_drewN | apply below_drew1 | refine below_set ?_ GE171.out | refine below_set ?_ GE172.out | refine below_set ?_ GE173.out) | exact HB.out)⟩
                              · rw [if_neg c109] at H
                                have c109b0 : (t190 == 0) = false := beq_eq_false_iff_ne.mpr c109
                                have c109b1 : (t190 != 0) = true := bne_iff_ne.mpr c109
                                obtain rfl := Option.some.inj H
                                have hnb130 := NB172_171.out
                                have hnc130 := NB171_172.out
                                have hnb131 := NB172_173.out
                                have hnc131 := NB173_172.out
                                have hcz132_0 : wc.cell? ⟨gb172, 0, none⟩ = some (.int .i64 a1_0) := (blk_cell BK172.out 0).trans rfl
                                have hcz132_1 : wc.cell? ⟨gb172, 1, none⟩ = some (.int .i64 a1_1) := (blk_cell BK172.out 1).trans rfl
                                have hfz132_0 := blk_frozen BK172.out 0
                                have hfz132_1 := blk_frozen BK172.out 1
                                have hnb133 := NB173_171.out
                                have hnc133 := NB171_173.out
                                have hcz134_0 : wc.cell? ⟨gb173, 0, none⟩ = some (.int .i64 a2_0) := (blk_cell BK173.out 0).trans rfl
                                have hcz134_1 : wc.cell? ⟨gb173, 1, none⟩ = some (.int .i64 a2_1) := (blk_cell BK173.out 1).trans rfl
                                have hfz134_0 := blk_frozen BK173.out 0
                                have hfz134_1 := blk_frozen BK173.out 1
                                go_wp2_with (first | (go_at_call 34; (with_reducible refine (frac_Compare.calls kj98 a1_0 a1_1 a2_0 a2_1 t189 t190 _ A107.out).mono ?_); rintro e w' ⟨rfl, ⟨nd, rfl⟩⟩; (try first | exact ⟨rfl, _, World.drewN_drewN _ _ _⟩ | exact ⟨rfl, _, Eq.trans (World.drewN_drewN _ _ _) (congrArg (World.drewN _) (Nat.add_assoc _ _ _))⟩); have hcz135_0 : wc.cell? ⟨gb171, 0, none⟩ = some (.int .i64 a0_0) := (blk_cell BK171.out 0).trans rfl; have hcz135_1 : wc.cell? ⟨gb171, 1, none⟩ = some (.int .i64 a0_1) := (blk_cell BK171.out 1).trans rfl; have hfz135_0 := blk_frozen BK171.out 0; have hfz135_1 := blk_frozen BK171.out 1) | (go_at_call 34; (with_reducible refine (frac_Compare.calls kj98 a0_0 a0_1 a2_0 a2_1 t191 t192 _ A108.out).mono ?_); rintro e w' ⟨rfl, ⟨nd, rfl⟩⟩; (try first | exact ⟨rfl, _, World.drewN_drewN _ _ _⟩ | exact ⟨rfl, _, Eq.trans (World.drewN_drewN _ _ _) (congrArg (World.drewN _) (Nat.add_assoc _ _ _))⟩)))
                                repeat (go_quiet (first | (go_at_call 34; (with_reducible refine (frac_Compare.calls kj98 a1_0 a1_1 a2_0 a2_1 t189 t190 _ A107.out).mono ?_); rintro e w' ⟨rfl, ⟨nd, rfl⟩⟩; (try first | exact ⟨rfl, _, World.drewN_drewN _ _ _⟩ | exact ⟨rfl, _, Eq.trans (World.drewN_drewN _ _ _) (congrArg (World.drewN _) (Nat.add_assoc _ _ _))⟩); have hcz135_0 : wc.cell? ⟨gb171, 0, none⟩ = some (.int .i64 a0_0) := (blk_cell BK171.out 0).trans rfl; have hcz135_1 : wc.cell? ⟨gb171, 1, none⟩ = some (.int .i64 a0_1) := (blk_cell BK171.out 1).trans rfl; have hfz135_0 := blk_frozen BK171.out 0; have hfz135_1 := blk_frozen BK171.out 1) | (go_at_call 34; (with_reducible refine (frac_Compare.calls kj98 a0_0 a0_1 a2_0 a2_1 t191 t192 _ A108.out).mono ?_); rintro e w' ⟨rfl, ⟨nd, rfl⟩⟩; (try first | exact ⟨rfl, _, World.drewN_drewN _ _ _⟩ | exact ⟨rfl, _, Eq.trans (World.drewN_drewN _ _ _) (congrArg (World.drewN _) (Nat.add_assoc _ _ _))⟩))); try go_wp2_with (first | (go_at_call 34; (with_reducible refine (frac_Compare.calls kj98 a1_0 a1_1 a2_0 a2_1 t189 t190 _ A107.out).mono ?_); rintro e w' ⟨rfl, ⟨nd, rfl⟩⟩; (try first | exact ⟨rfl, _, World.drewN_drewN _ _ _⟩ | exact ⟨rfl, _, Eq.trans (World.drewN_drewN _ _ _) (congrArg (World.drewN _) (Nat.add_assoc _ _ _))⟩); have hcz135_0 : wc.cell? ⟨gb171, 0, none⟩ = some (.int .i64 a0_0) := (blk_cell BK171.out 0).trans rfl; have hcz135_1 : wc.cell? ⟨gb171, 1, none⟩ = some (.int .i64 a0_1) := (blk_cell BK171.out 1).trans rfl; have hfz135_0 := blk_frozen BK171.out 0; have hfz135_1 := blk_frozen BK171.out 1) | (go_at_call 34; (with_reducible refine (frac_Compare.calls kj98 a0_0 a0_1 a2_0 a2_1 t191 t192 _ A108.out).mono ?_); rintro e w' ⟨rfl, ⟨nd, rfl⟩⟩; (try first | exact ⟨rfl, _, World.drewN_drewN _ _ _⟩ | exact ⟨rfl, _, Eq.trans (World.drewN_drewN _ _ _) (congrArg (World.drewN _) (Nat.add_assoc _ _ _))⟩))))
                                go_ret
                                exact ⟨by first | rfl | (simp [errW_none, errW_some] <;> rfl) | (simp [*, errW_none, errW_some] <;> rfl), by repeat (first | (with_reducible first | exact HB.out | apply below_alloc | apply pw_below_drewN | apply below_drew1 | refine below_set ?_ GE171.out | refine below_set ?_ GE172.out | refine below_set ?_ GE173.out) | exact HB.out)⟩
                      · replace c98 := Bool.eq_false_iff.mpr c98
                        subst c98
                        have H1 : ((frac_Compare.f kj46 a1_0 a1_1 a2_0 a2_1).bind fun bt193 => ((frac_Compare.f kj46 a0_0 a0_1 a2_0 a2_1).bind fun bt195 => (if bt193.2 = 0 then (if t175 < 0 then (if bt193.1 < 0 then (some (decide (bt195.1 < 0))) else (some true)) else (some true)) else (some true)))) = some r := by rw [if_neg (show ¬ (false = true) by decide)] at H; exact H
                        clear H
                        have H := H1
                        clear H1
                        replace H := Option.bind_eq_some_iff.mp H
                        obtain ⟨⟨t193, t194⟩, A1360, H⟩ := H
                        replace H : ((frac_Compare.f kj46 a0_0 a0_1 a2_0 a2_1).bind fun bt195 => (if t194 = 0 then (if t175 < 0 then (if t193 < 0 then (some (decide (bt195.1 < 0))) else (some true)) else (some true)) else (some true))) = some r := H
                        have A136 := Aside0.mk A1360
                        clear A1360
                        replace H := Option.bind_eq_some_iff.mp H
                        obtain ⟨⟨t195, t196⟩, A1370, H⟩ := H
                        replace H : (if t194 = 0 then (if t175 < 0 then (if t193 < 0 then (some (decide (t195 < 0))) else (some true)) else (some true)) else (some true)) = some r := H
                        have A137 := Aside0.mk A1370
                        clear A1370
                        by_cases c138 : t194 = 0
                        · rw [if_pos c138] at H
                          have c138b0 : (t194 == 0) = true := beq_iff_eq.mpr c138
                          have c138b1 : (t194 != 0) = false := bne_eq_false_iff_eq.mpr c138
                          clear c138
                          by_cases c139 : t175 < 0
                          · rw [if_pos c139] at H
                            have c139b0 : decide (t175 < 0) = true := decide_eq_true c139
                            clear c139
                            by_cases c140 : t193 < 0
                            · rw [if_pos c140] at H
                              have c140b0 : decide (t193 < 0) = true := decide_eq_true c140
                              clear c140
                              obtain rfl := Option.some.inj H
                              have hnb141 := NB172_171.out
                              have hnc141 := NB171_172.out
                              have hnb142 := NB172_173.out
                              have hnc142 := NB173_172.out
                              have hcz143_0 : wc.cell? ⟨gb172, 0, none⟩ = some (.int .i64 a1_0) := (blk_cell BK172.out 0).trans rfl
                              have hcz143_1 : wc.cell? ⟨gb172, 1, none⟩ = some (.int .i64 a1_1) := (blk_cell BK172.out 1).trans rfl
                              have hfz143_0 := blk_frozen BK172.out 0
                              have hfz143_1 := blk_frozen BK172.out 1
                              have hnb144 := NB173_171.out
                              have hnc144 := NB171_173.out
                              have hcz145_0 : wc.cell? ⟨gb173, 0, none⟩ = some (.int .i64 a2_0) := (blk_cell BK173.out 0).trans rfl
                              have hcz145_1 : wc.cell? ⟨gb173, 1, none⟩ = some (.int .i64 a2_1) := (blk_cell BK173.out 1).trans rfl
                              have hfz145_0 := blk_frozen BK173.out 0
                              have hfz145_1 := blk_frozen BK173.out 1
                              go_wp2_with (first | (go_at_call 34; (with_reducible refine (frac_Compare.calls kj46 a1_0 a1_1 a2_0 a2_1 t193 t194 _ A136.out).mono ?_); rintro e w' ⟨rfl, ⟨nd, rfl⟩⟩; (try first | exact ⟨rfl, _, World.drewN_drewN _ _ _⟩ | exact ⟨rfl, _, Eq.trans (World.drewN_drewN _ _ _) (congrArg (World.drewN _) (Nat.add_assoc _ _ _))⟩); have hcz146_0 : wc.cell? ⟨gb171, 0, none⟩ = some (.int .i64 a0_0) := (blk_cell BK171.out 0).trans rfl; have hcz146_1 : wc.cell? ⟨gb171, 1, none⟩ = some (.int .i64 a0_1) := (blk_cell BK171.out 1).trans rfl; have hfz146_0 := blk_frozen BK171.out 0; have hfz146_1 := blk_frozen BK171.out 1) | (go_at_call 34; (with_reducible refine (frac_Compare.calls kj46 a0_0 a0_1 a2_0 a2_1 t195 t196 _ A137.out).mono ?_); rintro e w' ⟨rfl, ⟨nd, rfl⟩⟩; (try first | exact ⟨rfl, _, World.drewN_drewN _ _ _⟩ | exact ⟨rfl, _, Eq.trans (World.drewN_drewN _ _ _) (congrArg (World.drewN _) (Nat.add_assoc _ _ _))⟩)))
                              repeat (go_quiet (first | (go_at_call 34; (with_reducible refine (frac_Compare.calls kj46 a1_0 a1_1 a2_0 a2_1 t193 t194 _ A136.out).mono ?_); rintro e w' ⟨rfl, ⟨nd, rfl⟩⟩; (try first | exact ⟨rfl, _, World.drewN_drewN _ _ _⟩ | exact ⟨rfl, _, Eq.trans (World.drewN_drewN _ _ _) (congrArg (World.drewN _) (Nat.add_assoc _ _ _))⟩); have hcz146_0 : wc.cell? ⟨gb171, 0, none⟩ = some (.int .i64 a0_0) := (blk_cell BK171.out 0).trans rfl; have hcz146_1 : wc.cell? ⟨gb171, 1, none⟩ = some (.int .i64 a0_1) := (blk_cell BK171.out 1).trans rfl; have hfz146_0 := blk_frozen BK171.out 0; have hfz146_1 := blk_frozen BK171.out 1) | (go_at_call 34; (with_reducible refine (frac_Compare.calls kj46 a0_0 a0_1 a2_0 a2_1 t195 t196 _ A137.out).mono ?_); rintro e w' ⟨rfl, ⟨nd, rfl⟩⟩; (try first | exact ⟨rfl, _, World.drewN_drewN _ _ _⟩ | exact ⟨rfl, _, Eq.trans (World.drewN_drewN _ _ _) (congrArg (World.drewN _) (Nat.add_assoc _ _ _))⟩))); try go_wp2_with (first | (go_at_call 34; (with_reducible refine (frac_Compare.calls kj46 a1_0 a1_1 a2_0 a2_1 t193 t194 _ A136.out).mono ?_); rintro e w' ⟨rfl, ⟨nd, rfl⟩⟩; (try first | exact ⟨rfl, _, World.drewN_drewN _ _ _⟩ | exact ⟨rfl, _, Eq.trans (World.drewN_drewN _ _ _) (congrArg (World.drewN _) (Nat.add_assoc _ _ _))⟩); have hcz146_0 : wc.cell? ⟨gb171, 0, none⟩ = some (.int .i64 a0_0) := (blk_cell BK171.out 0).trans rfl; have hcz146_1 : wc.cell? ⟨gb171, 1, none⟩ = some (.int .i64 a0_1) := (blk_cell BK171.out 1).trans rfl; have hfz146_0 := blk_frozen BK171.out 0; have hfz146_1 := blk_frozen BK171.out 1) | (go_at_call 34; (with_reducible refine (frac_Compare.calls kj46 a0_0 a0_1 a2_0 a2_1 t195 t196 _ A137.out).mono ?_); rintro e w' ⟨rfl, ⟨nd, rfl⟩⟩; (try first | exact ⟨rfl, _, World.drewN_drewN _ _ _⟩ | exact ⟨rfl, _, Eq.trans (World.drewN_drewN _ _ _) (congrArg (World.drewN _) (Nat.add_assoc _ _ _))⟩))))
                              go_ret
                              exact ⟨by first | rfl | (simp [errW_none, errW_some] <;> rfl) | (simp [*, errW_none, errW_some] <;> rfl), by repeat (first | (with_reducible first | exact HB.out | apply below_alloc | apply pw_below_drewN | apply below_drew1 | refine below_set ?_ GE171.out | refine below_set ?_ GE172.out | refine below_set ?_ GE173.out) | exact HB.out)⟩
                            · rw [if_neg c140] at H
                              have c140b0 : decide (t193 < 0) = false := decide_eq_false c140
                              clear c140
                              obtain rfl := Option.some.inj H
                              have hnb147 := NB172_171.out
                              have hnc147 := NB171_172.out
                              have hnb148 := NB172_173.out
                              have hnc148 := NB173_172.out
                              have hcz149_0 : wc.cell? ⟨gb172, 0, none⟩ = some (.int .i64 a1_0) := (blk_cell BK172.out 0).trans rfl
                              have hcz149_1 : wc.cell? ⟨gb172, 1, none⟩ = some (.int .i64 a1_1) := (blk_cell BK172.out 1).trans rfl
                              have hfz149_0 := blk_frozen BK172.out 0
                              have hfz149_1 := blk_frozen BK172.out 1
                              have hnb150 := NB173_171.out
                              have hnc150 := NB171_173.out
                              have hcz151_0 : wc.cell? ⟨gb173, 0, none⟩ = some (.int .i64 a2_0) := (blk_cell BK173.out 0).trans rfl
                              have hcz151_1 : wc.cell? ⟨gb173, 1, none⟩ = some (.int .i64 a2_1) := (blk_cell BK173.out 1).trans rfl
                              have hfz151_0 := blk_frozen BK173.out 0
                              have hfz151_1 := blk_frozen BK173.out 1
                              go_wp2_with (first | (go_at_call 34; (with_reducible refine (frac_Compare.calls kj46 a1_0 a1_1 a2_0 a2_1 t193 t194 _ A136.out).mono ?_); rintro e w' ⟨rfl, ⟨nd, rfl⟩⟩; (try first | exact ⟨rfl, _, World.drewN_drewN _ _ _⟩ | exact ⟨rfl, _, Eq.trans (World.drewN_drewN _ _ _) (congrArg (World.drewN _) (Nat.add_assoc _ _ _))⟩); have hcz152_0 : wc.cell? ⟨gb171, 0, none⟩ = some (.int .i64 a0_0) := (blk_cell BK171.out 0).trans rfl; have hcz152_1 : wc.cell? ⟨gb171, 1, none⟩ = some (.int .i64 a0_1) := (blk_cell BK171.out 1).trans rfl; have hfz152_0 := blk_frozen BK171.out 0; have hfz152_1 := blk_frozen BK171.out 1) | (go_at_call 34; (with_reducible refine (frac_Compare.calls kj46 a0_0 a0_1 a2_0 a2_1 t195 t196 _ A137.out).mono ?_); rintro e w' ⟨rfl, ⟨nd, rfl⟩⟩; (try first | exact ⟨rfl, _, World.drewN_drewN _ _ _⟩ | exact ⟨rfl, _, Eq.trans (World.drewN_drewN _ _ _) (congrArg (World.drewN _) (Nat.add_assoc _ _ _))⟩)))
                              repeat (go_quiet (first | (go_at_call 34; (with_reducible refine (frac_Compare.calls kj46 a1_0 a1_1 a2_0 a2_1 t193 t194 _ A136.out).mono ?_); rintro e w' ⟨rfl, ⟨nd, rfl⟩⟩; (try first | exact ⟨rfl, _, World.drewN_drewN _ _ _⟩ | exact ⟨rfl, _, Eq.trans (World.drewN_drewN _ _ _) (congrArg (World.drewN _) (Nat.add_assoc _ _ _))⟩); have hcz152_0 : wc.cell? ⟨gb171, 0, none⟩ = some (.int .i64 a0_0) := (blk_cell BK171.out 0).trans rfl; have hcz152_1 : wc.cell? ⟨gb171, 1, none⟩ = some (.int .i64 a0_1) := (blk_cell BK171.out 1).trans rfl; have hfz152_0 := blk_frozen BK171.out 0; have hfz152_1 := blk_frozen BK171.out 1) | (go_at_call 34; (with_reducible refine (frac_Compare.calls kj46 a0_0 a0_1 a2_0 a2_1 t195 t196 _ A137.out).mono ?_); rintro e w' ⟨rfl, ⟨nd, rfl⟩⟩; (try first | exact ⟨rfl, _, World.drewN_drewN _ _ _⟩ | exact ⟨rfl, _, Eq.trans (World.drewN_drewN _ _ _) (congrArg (World.drewN _) (Nat.add_assoc _ _ _))⟩))); try go_wp2_with (first | (go_at_call 34; (with_reducible refine (frac_Compare.calls kj46 a1_0 a1_1 a2_0 a2_1 t193 t194 _ A136.out).mono ?_); rintro e w' ⟨rfl, ⟨nd, rfl⟩⟩; (try first | exact ⟨rfl, _, World.drewN_drewN _ _ _⟩ | exact ⟨rfl, _, Eq.trans (World.drewN_drewN _ _ _) (congrArg (World.drewN _) (Nat.add_assoc _ _ _))⟩); have hcz152_0 : wc.cell? ⟨gb171, 0, none⟩ = some (.int .i64 a0_0) := (blk_cell BK171.out 0).trans rfl; have hcz152_1 : wc.cell? ⟨gb171, 1, none⟩ = some (.int .i64 a0_1) := (blk_cell BK171.out 1).trans rfl; have hfz152_0 := blk_frozen BK171.out 0; have hfz152_1 := blk_frozen BK171.out 1) | (go_at_call 34; (with_reducible refine (frac_Compare.calls kj46 a0_0 a0_1 a2_0 a2_1 t195 t196 _ A137.out).mono ?_); rintro e w' ⟨rfl, ⟨nd, rfl⟩⟩; (try first | exact ⟨rfl, _, World.drewN_drewN _ _ _⟩ | exact ⟨rfl, _, Eq.trans (World.drewN_drewN _ _ _) (congrArg (World.drewN _) (Nat.add_assoc _ _ _))⟩))))
                              go_ret
                              exact ⟨by first | rfl | (simp [errW_none, errW_some] <;> rfl) | (simp [*, errW_none, errW_some] <;> rfl), by repeat (first | (with_reducible first | exact HB.out | apply below_alloc | apply pw_below_drewN | apply below_drew1 | refine below_set ?_ GE171.out | refine below_set ?_ GE172.out | refine below_set ?_ GE173.out) | exact HB.out)⟩
                          · rw [if_neg c139] at H
                            have c139b0 : decide (t175 < 0) = false := decide_eq_false c139
                            clear c139
                            obtain rfl := Option.some.inj H
                            have hnb153 := NB172_171.out
                            have hnc153 := NB171_172.out
                            have hnb154 := NB172_173.out
                            have hnc154 := NB173_172.out
                            have hcz155_0 : wc.cell? ⟨gb172, 0, none⟩ = some (.int .i64 a1_0) := (blk_cell BK172.out 0).trans rfl
                            have hcz155_1 : wc.cell? ⟨gb172, 1, none⟩ = some (.int .i64 a1_1) := (blk_cell BK172.out 1).trans rfl
                            have hfz155_0 := blk_frozen BK172.out 0
                            have hfz155_1 := blk_frozen BK172.out 1
                            have hnb156 := NB173_171.out
                            have hnc156 := NB171_173.out
                            have hcz157_0 : wc.cell? ⟨gb173, 0, none⟩ = some (.int .i64 a2_0) := (blk_cell BK173.out 0).trans rfl
                            have hcz157_1 : wc.cell? ⟨gb173, 1, none⟩ = some (.int .i64 a2_1) := (blk_cell BK173.out 1).trans rfl
                            have hfz157_0 := blk_frozen BK173.out 0
                            have hfz157_1 := blk_frozen BK173.out 1
                            go_wp2_with (first | (go_at_call 34; (with_reducible refine (frac_Compare.calls kj46 a1_0 a1_1 a2_0 a2_1 t193 t194 _ A136.out).mono ?_); rintro e w' ⟨rfl, ⟨nd, rfl⟩⟩; (try first | exact ⟨rfl, _, World.drewN_drewN _ _ _⟩ | exact ⟨rfl, _, Eq.trans (World.drewN_drewN _ _ _) (congrArg (World.drewN _) (Nat.add_assoc _ _ _))⟩); have hcz158_0 : wc.cell? ⟨gb171, 0, none⟩ = some (.int .i64 a0_0) := (blk_cell BK171.out 0).trans rfl; have hcz158_1 : wc.cell? ⟨gb171, 1, none⟩ = some (.int .i64 a0_1) := (blk_cell BK171.out 1).trans rfl; have hfz158_0 := blk_frozen BK171.out 0; have hfz158_1 := blk_frozen BK171.out 1) | (go_at_call 34; (with_reducible refine (frac_Compare.calls kj46 a0_0 a0_1 a2_0 a2_1 t195 t196 _ A137.out).mono ?_); rintro e w' ⟨rfl, ⟨nd, rfl⟩⟩; (try first | exact ⟨rfl, _, World.drewN_drewN _ _ _⟩ | exact ⟨rfl, _, Eq.trans (World.drewN_drewN _ _ _) (congrArg (World.drewN _) (Nat.add_assoc _ _ _))⟩)))
                            repeat (go_quiet (first | (go_at_call 34; (with_reducible refine (frac_Compare.calls kj46 a1_0 a1_1 a2_0 a2_1 t193 t194 _ A136.out).mono ?_); rintro e w' ⟨rfl, ⟨nd, rfl⟩⟩; (try first | exact ⟨rfl, _, World.drewN_drewN _ _ _⟩ | exact ⟨rfl, _, Eq.trans (World.drewN_drewN _ _ _) (congrArg (World.drewN _) (Nat.add_assoc _ _ _))⟩); have hcz158_0 : wc.cell? ⟨gb171, 0, none⟩ = some (.int .i64 a0_0) := (blk_cell BK171.out 0).trans rfl; have hcz158_1 : wc.cell? ⟨gb171, 1, none⟩ = some (.int .i64 a0_1) := (blk_cell BK171.out 1).trans rfl; have hfz158_0 := blk_frozen BK171.out 0; have hfz158_1 := blk_frozen BK171.out 1) | (go_at_call 34; (with_reducible refine (frac_Compare.calls kj46 a0_0 a0_1 a2_0 a2_1 t195 t196 _ A137.out).mono ?_); rintro e w' ⟨rfl, ⟨nd, rfl⟩⟩; (try first | exact ⟨rfl, _, World.drewN_drewN _ _ _⟩ | exact ⟨rfl, _, Eq.trans (World.drewN_drewN _ _ _) (congrArg (World.drewN _) (Nat.add_assoc _ _ _))⟩))); try go_wp2_with (first | (go_at_call 34; (with_reducible refine (frac_Compare.calls kj46 a1_0 a1_1 a2_0 a2_1 t193 t194 _ A136.out).mono ?_); rintro e w' ⟨rfl, ⟨nd, rfl⟩⟩; (try first | exact ⟨rfl, _, World.drewN_drewN _ _ _⟩ | exact ⟨rfl, _, Eq.trans (World.drewN_drewN _ _ _) (congrArg (World.drewN _) (Nat.add_assoc _ _ _))⟩); have hcz158_0 : wc.cell? ⟨gb171, 0, none⟩ = some (.int .i64 a0_0) := (blk_cell BK171.out 0).trans rfl; have hcz158_1 : wc.cell? ⟨gb171, 1, none⟩ = some (.int .i64 a0_1) := (blk_cell BK171.out 1).trans rfl; have hfz158_0 := blk_frozen BK171.out 0; have hfz158_1 := blk_frozen BK171.out 1) | (go_at_call 34; (with_reducible refine (frac_Compare.calls kj46 a0_0 a0_1 a2_0 a2_1 t195 t196 _ A137.out).mono ?_); rintro e w' ⟨rfl, ⟨nd, rfl⟩⟩; (try first | exact ⟨rfl, _, World.drewN_drewN _ _ _⟩ | exact ⟨rfl, _, Eq.trans (World.drewN_drewN _ _ _) (congrArg (World.drewN _) (Nat.add_assoc _ _ _))⟩))))
                            go_ret
                            exact ⟨by first | rfl | (simp [errW_none, errW_some] <;> rfl) | (simp [*, errW_none, errW_some] <;> rfl), by repeat (first | (with_reducible first | exact HB.out | apply below_alloc | apply pw_below_drewN | apply below_drew1 | refine below_set ?_ GE171.out | refine below_set ?_ GE172.out | refine below_set ?_ GE173.out) | exact HB.out)⟩
                        · rw [if_neg c138] at H
                          have c138b0 : (t194 == 0) = false := beq_eq_false_iff_ne.mpr c138
                          have c138b1 : (t194 != 0) = true := bne_iff_ne.mpr c138
                          obtain rfl := Option.some.inj H
                          have hnb159 := NB172_171.out
                          have hnc159 := NB171_172.out
                          have hnb160 := NB172_173.out
                          have hnc160 := NB173_172.out
                          have hcz161_0 : wc.cell? ⟨gb172, 0, none⟩ = some (.int .i64 a1_0) := (blk_cell BK172.out 0).trans rfl
                          have hcz161_1 : wc.cell? ⟨gb172, 1, none⟩ = some (.int .i64 a1_1) := (blk_cell BK172.out 1).trans rfl
                          have hfz161_0 := blk_frozen BK172.out 0
                          have hfz161_1 := blk_frozen BK172.out 1
                          have hnb162 := NB173_171.out
                          have hnc162 := NB171_173.out
                          have hcz163_0 : wc.cell? ⟨gb173, 0, none⟩ = some (.int .i64 a2_0) := (blk_cell BK173.out 0).trans rfl
                          have hcz163_1 : wc.cell? ⟨gb173, 1, none⟩ = some (.int .i64 a2_1) := (blk_cell BK173.out 1).trans rfl
                          have hfz163_0 := blk_frozen BK173.out 0
                          have hfz163_1 := blk_frozen BK173.out 1
                          go_wp2_with (first | (go_at_call 34; (with_reducible refine (frac_Compare.calls kj46 a1_0 a1_1 a2_0 a2_1 t193 t194 _ A136.out).mono ?_); rintro e w' ⟨rfl, ⟨nd, rfl⟩⟩; (try first | exact ⟨rfl, _, World.drewN_drewN _ _ _⟩ | exact ⟨rfl, _, Eq.trans (World.drewN_drewN _ _ _) (congrArg (World.drewN _) (Nat.add_assoc _ _ _))⟩); have hcz164_0 : wc.cell? ⟨gb171, 0, none⟩ = some (.int .i64 a0_0) := (blk_cell BK171.out 0).trans rfl; have hcz164_1 : wc.cell? ⟨gb171, 1, none⟩ = some (.int .i64 a0_1) := (blk_cell BK171.out 1).trans rfl; have hfz164_0 := blk_frozen BK171.out 0; have hfz164_1 := blk_frozen BK171.out 1) | (go_at_call 34; (with_reducible refine (frac_Compare.calls kj46 a0_0 a0_1 a2_0 a2_1 t195 t196 _ A137.out).mono ?_); rintro e w' ⟨rfl, ⟨nd, rfl⟩⟩; (try first | exact ⟨rfl, _, World.drewN_drewN _ _ _⟩ | exact ⟨rfl, _, Eq.trans (World.drewN_drewN _ _ _) (congrArg (World.drewN _) (Nat.add_assoc _ _ _))⟩)))
                          repeat (go_quiet (first | (go_at_call 34; (with_reducible refine (frac_Compare.calls kj46 a1_0 a1_1 a2_0 a2_1 t193 t194 _ A136.out).mono ?_); rintro e w' ⟨rfl, ⟨nd, rfl⟩⟩; (try first | exact ⟨rfl, _, World.drewN_drewN _ _ _⟩ | exact ⟨rfl, _, Eq.trans (World.drewN_drewN _ _ _) (congrArg (World.drewN _) (Nat.add_assoc _ _ _))⟩); have hcz164_0 : wc.cell? ⟨gb171, 0, none⟩ = some (.int .i64 a0_0) := (blk_cell BK171.out 0).trans rfl; have hcz164_1 : wc.cell? ⟨gb171, 1, none⟩ = some (.int .i64 a0_1) := (blk_cell BK171.out 1).trans rfl; have hfz164_0 := blk_frozen BK171.out 0; have hfz164_1 := blk_frozen BK171.out 1) | (go_at_call 34; (with_reducible refine (frac_Compare.calls kj46 a0_0 a0_1 a2_0 a2_1 t195 t196 _ A137.out).mono ?_); rintro e w' ⟨rfl, ⟨nd, rfl⟩⟩; (try first | exact ⟨rfl, _, World.drewN_drewN _ _ _⟩ | exact ⟨rfl, _, Eq.trans (World.drewN_drewN _ _ _) (congrArg (World.drewN _) (Nat.add_assoc _ _ _))⟩))); try go_wp2_with (first | (go_at_call 34; (with_reducible refine (frac_Compare.calls kj46 a1_0 a1_1 a2_0 a2_1 t193 t194 _ A136.out).mono ?_); rintro e w' ⟨rfl, ⟨nd, rfl⟩⟩; (try first | exact ⟨rfl, _, World.drewN_drewN _ _ _⟩ | exact ⟨rfl, _, Eq.trans (World.drewN_drewN _ _ _) (congrArg (World.drewN _) (Nat.add_assoc _ _ _))⟩); have hcz164_0 : wc.cell? ⟨gb171, 0, none⟩ = some (.int .i64 a0_0) := (blk_cell BK171.out 0).trans rfl; have hcz164_1 : wc.cell? ⟨gb171, 1, none⟩ = some (.int .i64 a0_1) := (blk_cell BK171.out 1).trans rfl; have hfz164_0 := blk_frozen BK171.out 0; have hfz164_1 := blk_frozen BK171.out 1) | (go_at_call 34; (with_reducible refine (frac_Compare.calls kj46 a0_0 a0_1 a2_0 a2_1 t195 t196 _ A137.out).mono ?_); rintro e w' ⟨rfl, ⟨nd, rfl⟩⟩; (try first | exact ⟨rfl, _, World.drewN_drewN _ _ _⟩ | exact ⟨rfl, _, Eq.trans (World.drewN_drewN _ _ _) (congrArg (World.drewN _) (Nat.add_assoc _ _ _))⟩))))
                          go_ret
                          exact ⟨by first | rfl | (simp [errW_none, errW_some] <;> rfl) | (simp [*, errW_none, errW_some] <;> rfl), by repeat (first | (with_reducible first | exact HB.out | apply below_alloc | apply pw_below_drewN | apply below_drew1 | refine below_set ?_ GE171.out | refine below_set ?_ GE172.out | refine below_set ?_ GE173.out) | exact HB.out)⟩
                · rw [if_neg c46] at H
                  have c46b0 : (t185 == 0) = false := beq_eq_false_iff_ne.mpr c46
                  have c46b1 : (t185 != 0) = true := bne_iff_ne.mpr c46
                  obtain rfl := Option.some.inj H
                  have hnb165 := NB171_172.out
                  have hnc165 := NB172_171.out
                  have hnb166 := NB171_173.out
                  have hnc166 := NB173_171.out
                  have hcz167_0 : wc.cell? ⟨gb171, 0, none⟩ = some (.int .i64 a0_0) := (blk_cell BK171.out 0).trans rfl
                  have hcz167_1 : wc.cell? ⟨gb171, 1, none⟩ = some (.int .i64 a0_1) := (blk_cell BK171.out 1).trans rfl
                  have hfz167_0 := blk_frozen BK171.out 0
                  have hfz167_1 := blk_frozen BK171.out 1
                  go_wp2_with (first | (go_at_call 34; (with_reducible refine (frac_Compare.calls kj30 t179 t180 a0_0 a0_1 t185 t186 _ A45.out).mono ?_); rintro e w' ⟨rfl, ⟨nd, rfl⟩⟩; (try first | exact ⟨rfl, _, World.drewN_drewN _ _ _⟩ | exact ⟨rfl, _, Eq.trans (World.drewN_drewN _ _ _) (congrArg (World.drewN _) (Nat.add_assoc _ _ _))⟩)))
                  repeat (go_quiet (first | (go_at_call 34; (with_reducible refine (frac_Compare.calls kj30 t179 t180 a0_0 a0_1 t185 t186 _ A45.out).mono ?_); rintro e w' ⟨rfl, ⟨nd, rfl⟩⟩; (try first | exact ⟨rfl, _, World.drewN_drewN _ _ _⟩ | exact ⟨rfl, _, Eq.trans (World.drewN_drewN _ _ _) (congrArg (World.drewN _) (Nat.add_assoc _ _ _))⟩))); try go_wp2_with (first | (go_at_call 34; (with_reducible refine (frac_Compare.calls kj30 t179 t180 a0_0 a0_1 t185 t186 _ A45.out).mono ?_); rintro e w' ⟨rfl, ⟨nd, rfl⟩⟩; (try first | exact ⟨rfl, _, World.drewN_drewN _ _ _⟩ | exact ⟨rfl, _, Eq.trans (World.drewN_drewN _ _ _) (congrArg (World.drewN _) (Nat.add_assoc _ _ _))⟩))))
                  go_ret
                  exact ⟨by first | rfl | (simp [errW_none, errW_some] <;> rfl) | (simp [*, errW_none, errW_some] <;> rfl), by repeat (first | (with_reducible first | exact HB.out | apply below_alloc | apply pw_below_drewN | apply below_drew1 | refine below_set ?_ GE171.out | refine below_set ?_ GE172.out | refine below_set ?_ GE173.out) | exact HB.out)⟩
  · replace c5 := Bool.eq_false_iff.mpr c5
    subst c5
    have H1 : (some false) = some r := by rw [if_neg (show ¬ (false = true) by decide)] at H; exact H
    clear H
    have H := H1
    clear H1
    obtain rfl := Option.some.inj H
    go_enter Try.func11, Try.ntmps11
    go_wp2_with (first | ((with_reducible refine gate_dst (N := 3) rfl ?_); refine box_event ?hg (N := 3) ?hd (cs := #[.int .i64 a0_0, .int .i64 a0_1]) (t := 75) ?hr ?_; (case hd => rfl); (case hg => rfl); (case hr => first | (go_simp; done) | (go_simp; rfl)); intro gb171 hg w168 hbox hb; have n0_ := Aside0.mk (below_step (by repeat (first | (with_reducible first | exact HB.out | apply below_alloc | apply pw_below_drewN | apply below_drew1) | exact HB.out)) hb); have n1_ := Aside0.mk (hbox); have n2_ := Aside0.mk ((by rw [hg]; exact (below_size (by repeat (first | (with_reducible first | exact HB.out | apply below_alloc | apply pw_below_drewN | apply below_drew1) | exact HB.out))) : w.heap.size ≤ gb171)); have n3_ := Aside0.mk ((by rw [hg]; exact (below_size (by repeat (first | (with_reducible first | exact HB.out | apply below_alloc | apply pw_below_drewN | apply below_drew1) | exact HB.out))) : w.heap.size ≤ gb171)); clear HB; have HB := n0_; have BK171 := n1_; have GW171 := n2_; have GE171 := n3_; clear n0_ n1_ n2_ n3_; clear hb hbox hg) | ((with_reducible refine gate_dst (N := 4) rfl ?_); refine box_event ?hg (N := 4) ?hd (cs := #[.int .i64 a1_0, .int .i64 a1_1]) (t := 75) ?hr ?_; (case hd => rfl); (case hg => rfl); (case hr => first | (go_simp; done) | (go_simp; rfl)); intro gb172 hg w169 hbox hb; have n0_ := Aside0.mk (blk_below (g := gb171) (o := .cells #[.int .i64 a0_0, .int .i64 a0_1] 75 (0, 0)) (by (with_reducible repeat (first | refine blk_drewN ?_ _ | refine blk_drew ?_ | refine blk_alloc ?_ _)); exact BK171.out) hb); have n1_ := Aside0.mk (below_step (by repeat (first | (with_reducible first | exact HB.out | apply below_alloc | apply pw_below_drewN | apply below_drew1 | refine below_set ?_ GE171.out) | exact HB.out)) hb); have n2_ := Aside0.mk (hbox); have n3_ := Aside0.mk ((by rw [hg]; exact (below_size (by repeat (first | (with_reducible first | exact HB.out | apply below_alloc | apply pw_below_drewN | apply below_drew1 | refine below_set ?_ GE171.out) | exact HB.out))) : w.heap.size ≤ gb172)); have n4_ := Aside0.mk ((by rw [hg]; exact (below_size (by repeat (first | (with_reducible first | exact HB.out | apply below_alloc | apply pw_below_drewN | apply below_drew1 | refine below_set ?_ GE171.out) | exact HB.out))) : w.heap.size ≤ gb172)); have n5_ := Aside0.mk ((by rw [hg]; exact Nat.ne_of_lt (blk_lt (g := gb171) (o := .cells #[.int .i64 a0_0, .int .i64 a0_1] 75 (0, 0)) (by (with_reducible repeat (first | refine blk_drewN ?_ _ | refine blk_drew ?_ | refine blk_alloc ?_ _)); exact BK171.out)) : gb171 ≠ gb172)); have n6_ := Aside0.mk ((by rw [hg]; exact Nat.ne_of_gt (blk_lt (g := gb171) (o := .cells #[.int .i64 a0_0, .int .i64 a0_1] 75 (0, 0)) (by (with_reducible repeat (first | refine blk_drewN ?_ _ | refine blk_drew ?_ | refine blk_alloc ?_ _)); exact BK171.out)) : gb172 ≠ gb171)); clear BK171; clear HB; have BK171 := n0_; have HB := n1_; have BK172 := n2_; have GW172 := n3_; have GE172 := n4_; have NB171_172 := n5_; have NB172_171 := n6_; clear n0_ n1_ n2_ n3_ n4_ n5_ n6_; clear hb hbox hg) | ((with_reducible refine gate_dst (N := 5) rfl ?_); refine box_event ?hg (N := 5) ?hd (cs := #[.int .i64 a2_0, .int .i64 a2_1]) (t := 75) ?hr ?_; (case hd => rfl); (case hg => rfl); (case hr => first | (go_simp; done) | (go_simp; rfl)); intro gb173 hg w170 hbox hb; have n0_ := Aside0.mk (blk_below (g := gb171) (o := .cells #[.int .i64 a0_0, .int .i64 a0_1] 75 (0, 0)) (by (with_reducible repeat (first | refine blk_drewN ?_ _ | refine blk_drew ?_ | refine blk_alloc ?_ _)); exact BK171.out) hb); have n1_ := Aside0.mk (blk_below (g := gb172) (o := .cells #[.int .i64 a1_0, .int .i64 a1_1] 75 (0, 0)) (by (with_reducible repeat (first | refine blk_drewN ?_ _ | refine blk_drew ?_ | refine blk_alloc ?_ _)); exact BK172.out) hb); have n2_ := Aside0.mk (below_step (by repeat (first | (with_reducible first | exact HB.out | apply below_alloc | apply pw_below_drewN | apply below_drew1 | refine below_set ?_ GE171.out | refine below_set ?_ GE172.out) | exact HB.out)) hb); have n3_ := Aside0.mk (hbox); have n4_ := Aside0.mk ((by rw [hg]; exact (below_size (by repeat (first | (with_reducible first | exact HB.out | apply below_alloc | apply pw_below_drewN | apply below_drew1 | refine below_set ?_ GE171.out | refine below_set ?_ GE172.out) | exact HB.out))) : w.heap.size ≤ gb173)); have n5_ := Aside0.mk ((by rw [hg]; exact (below_size (by repeat (first | (with_reducible first | exact HB.out | apply below_alloc | apply pw_below_drewN | apply below_drew1 | refine below_set ?_ GE171.out | refine below_set ?_ GE172.out) | exact HB.out))) : w.heap.size ≤ gb173)); have n6_ := Aside0.mk ((by rw [hg]; exact Nat.ne_of_lt (blk_lt (g := gb171) (o := .cells #[.int .i64 a0_0, .int .i64 a0_1] 75 (0, 0)) (by (with_reducible repeat (first | refine blk_drewN ?_ _ | refine blk_drew ?_ | refine blk_alloc ?_ _)); exact BK171.out)) : gb171 ≠ gb173)); have n7_ := Aside0.mk ((by rw [hg]; exact Nat.ne_of_gt (blk_lt (g := gb171) (o := .cells #[.int .i64 a0_0, .int .i64 a0_1] 75 (0, 0)) (by (with_reducible repeat (first | refine blk_drewN ?_ _ | refine blk_drew ?_ | refine blk_alloc ?_ _)); exact BK171.out)) : gb173 ≠ gb171)); have n8_ := Aside0.mk ((by rw [hg]; exact Nat.ne_of_lt (blk_lt (g := gb172) (o := .cells #[.int .i64 a1_0, .int .i64 a1_1] 75 (0, 0)) (by (with_reducible repeat (first | refine blk_drewN ?_ _ | refine blk_drew ?_ | refine blk_alloc ?_ _)); exact BK172.out)) : gb172 ≠ gb173)); have n9_ := Aside0.mk ((by rw [hg]; exact Nat.ne_of_gt (blk_lt (g := gb172) (o := .cells #[.int .i64 a1_0, .int .i64 a1_1] 75 (0, 0)) (by (with_reducible repeat (first | refine blk_drewN ?_ _ | refine blk_drew ?_ | refine blk_alloc ?_ _)); exact BK172.out)) : gb173 ≠ gb172)); clear BK171; clear BK172; clear HB; have BK171 := n0_; have BK172 := n1_; have HB := n2_; have BK173 := n3_; have GW173 := n4_; have GE173 := n5_; have NB171_173 := n6_; have NB173_171 := n7_; have NB172_173 := n8_; have NB173_172 := n9_; clear n0_ n1_ n2_ n3_ n4_ n5_ n6_ n7_ n8_ n9_; clear hb hbox hg) | (go_at_call 30; (with_reducible refine (stipendlaw02_parts.calls k  false _ A4.out).mono ?_); rintro e w171 ⟨rfl, hb⟩; have n0_ := Aside0.mk (blk_below (g := gb171) (o := .cells #[.int .i64 a0_0, .int .i64 a0_1] 75 (0, 0)) (by (with_reducible repeat (first | refine blk_drewN ?_ _ | refine blk_drew ?_ | refine blk_alloc ?_ _)); exact BK171.out) hb); have n1_ := Aside0.mk (blk_below (g := gb172) (o := .cells #[.int .i64 a1_0, .int .i64 a1_1] 75 (0, 0)) (by (with_reducible repeat (first | refine blk_drewN ?_ _ | refine blk_drew ?_ | refine blk_alloc ?_ _)); exact BK172.out) hb); have n2_ := Aside0.mk (blk_below (g := gb173) (o := .cells #[.int .i64 a2_0, .int .i64 a2_1] 75 (0, 0)) (by (with_reducible repeat (first | refine blk_drewN ?_ _ | refine blk_drew ?_ | refine blk_alloc ?_ _)); exact BK173.out) hb); have n3_ := Aside0.mk (below_step (by repeat (first | (with_reducible first | exact HB.out | apply below_alloc | apply pw_below_drewN | apply below_drew1 | refine below_set ?_ GE171.out | refine below_set ?_ GE172.out | refine below_set ?_ GE173.out) | exact HB.out)) hb); clear BK171; clear BK172; clear BK173; clear HB; have BK171 := n0_; have BK172 := n1_; have BK173 := n2_; have HB := n3_; clear n0_ n1_ n2_ n3_; (try clear hb); (try clear hb2); (try clear hk); (try clear hi)))
    repeat (go_quiet (first | ((with_reducible refine gate_dst (N := 3) rfl ?_); refine box_event ?hg (N := 3) ?hd (cs := #[.int .i64 a0_0, .int .i64 a0_1]) (t := 75) ?hr ?_; (case hd => rfl); (case hg => rfl); (case hr => first | (go_simp; done) | (go_simp; rfl)); intro gb171 hg w168 hbox hb; have n0_ := Aside0.mk (below_step (by repeat (first | (with_reducible first | exact HB.out | apply below_alloc | apply pw_below_drewN | apply below_drew1) | exact HB.out)) hb); have n1_ := Aside0.mk (hbox); have n2_ := Aside0.mk ((by rw [hg]; exact (below_size (by repeat (first | (with_reducible first | exact HB.out | apply below_alloc | apply pw_below_drewN | apply below_drew1) | exact HB.out))) : w.heap.size ≤ gb171)); have n3_ := Aside0.mk ((by rw [hg]; exact (below_size (by repeat (first | (with_reducible first | exact HB.out | apply below_alloc | apply pw_below_drewN | apply below_drew1) | exact HB.out))) : w.heap.size ≤ gb171)); clear HB; have HB := n0_; have BK171 := n1_; have GW171 := n2_; have GE171 := n3_; clear n0_ n1_ n2_ n3_; clear hb hbox hg) | ((with_reducible refine gate_dst (N := 4) rfl ?_); refine box_event ?hg (N := 4) ?hd (cs := #[.int .i64 a1_0, .int .i64 a1_1]) (t := 75) ?hr ?_; (case hd => rfl); (case hg => rfl); (case hr => first | (go_simp; done) | (go_simp; rfl)); intro gb172 hg w169 hbox hb; have n0_ := Aside0.mk (blk_below (g := gb171) (o := .cells #[.int .i64 a0_0, .int .i64 a0_1] 75 (0, 0)) (by (with_reducible repeat (first | refine blk_drewN ?_ _ | refine blk_drew ?_ | refine blk_alloc ?_ _)); exact BK171.out) hb); have n1_ := Aside0.mk (below_step (by repeat (first | (with_reducible first | exact HB.out | apply below_alloc | apply pw_below_drewN | apply below_drew1 | refine below_set ?_ GE171.out) | exact HB.out)) hb); have n2_ := Aside0.mk (hbox); have n3_ := Aside0.mk ((by rw [hg]; exact (below_size (by repeat (first | (with_reducible first | exact HB.out | apply below_alloc | apply pw_below_drewN | apply below_drew1 | refine below_set ?_ GE171.out) | exact HB.out))) : w.heap.size ≤ gb172)); have n4_ := Aside0.mk ((by rw [hg]; exact (below_size (by repeat (first | (with_reducible first | exact HB.out | apply below_alloc | apply pw_below_drewN | apply below_drew1 | refine below_set ?_ GE171.out) | exact HB.out))) : w.heap.size ≤ gb172)); have n5_ := Aside0.mk ((by rw [hg]; exact Nat.ne_of_lt (blk_lt (g := gb171) (o := .cells #[.int .i64 a0_0, .int .i64 a0_1] 75 (0, 0)) (by (with_reducible repeat (first | refine blk_drewN ?_ _ | refine blk_drew ?_ | refine blk_alloc ?_ _)); exact BK171.out)) : gb171 ≠ gb172)); have n6_ := Aside0.mk ((by rw [hg]; exact Nat.ne_of_gt (blk_lt (g := gb171) (o := .cells #[.int .i64 a0_0, .int .i64 a0_1] 75 (0, 0)) (by (with_reducible repeat (first | refine blk_drewN ?_ _ | refine blk_drew ?_ | refine blk_alloc ?_ _)); exact BK171.out)) : gb172 ≠ gb171)); clear BK171; clear HB; have BK171 := n0_; have HB := n1_; have BK172 := n2_; have GW172 := n3_; have GE172 := n4_; have NB171_172 := n5_; have NB172_171 := n6_; clear n0_ n1_ n2_ n3_ n4_ n5_ n6_; clear hb hbox hg) | ((with_reducible refine gate_dst (N := 5) rfl ?_); refine box_event ?hg (N := 5) ?hd (cs := #[.int .i64 a2_0, .int .i64 a2_1]) (t := 75) ?hr ?_; (case hd => rfl); (case hg => rfl); (case hr => first | (go_simp; done) | (go_simp; rfl)); intro gb173 hg w170 hbox hb; have n0_ := Aside0.mk (blk_below (g := gb171) (o := .cells #[.int .i64 a0_0, .int .i64 a0_1] 75 (0, 0)) (by (with_reducible repeat (first | refine blk_drewN ?_ _ | refine blk_drew ?_ | refine blk_alloc ?_ _)); exact BK171.out) hb); have n1_ := Aside0.mk (blk_below (g := gb172) (o := .cells #[.int .i64 a1_0, .int .i64 a1_1] 75 (0, 0)) (by (with_reducible repeat (first | refine blk_drewN ?_ _ | refine blk_drew ?_ | refine blk_alloc ?_ _)); exact BK172.out) hb); have n2_ := Aside0.mk (below_step (by repeat (first | (with_reducible first | exact HB.out | apply below_alloc | apply pw_below_drewN | apply below_drew1 | refine below_set ?_ GE171.out | refine below_set ?_ GE172.out) | exact HB.out)) hb); have n3_ := Aside0.mk (hbox); have n4_ := Aside0.mk ((by rw [hg]; exact (below_size (by repeat (first | (with_reducible first | exact HB.out | apply below_alloc | apply pw_below_drewN | apply below_drew1 | refine below_set ?_ GE171.out | refine below_set ?_ GE172.out) | exact HB.out))) : w.heap.size ≤ gb173)); have n5_ := Aside0.mk ((by rw [hg]; exact (below_size (by repeat (first | (with_reducible first | exact HB.out | apply below_alloc | apply pw_below_drewN | apply below_drew1 | refine below_set ?_ GE171.out | refine below_set ?_ GE172.out) | exact HB.out))) : w.heap.size ≤ gb173)); have n6_ := Aside0.mk ((by rw [hg]; exact Nat.ne_of_lt (blk_lt (g := gb171) (o := .cells #[.int .i64 a0_0, .int .i64 a0_1] 75 (0, 0)) (by (with_reducible repeat (first | refine blk_drewN ?_ _ | refine blk_drew ?_ | refine blk_alloc ?_ _)); exact BK171.out)) : gb171 ≠ gb173)); have n7_ := Aside0.mk ((by rw [hg]; exact Nat.ne_of_gt (blk_lt (g := gb171) (o := .cells #[.int .i64 a0_0, .int .i64 a0_1] 75 (0, 0)) (by (with_reducible repeat (first | refine blk_drewN ?_ _ | refine blk_drew ?_ | refine blk_alloc ?_ _)); exact BK171.out)) : gb173 ≠ gb171)); have n8_ := Aside0.mk ((by rw [hg]; exact Nat.ne_of_lt (blk_lt (g := gb172) (o := .cells #[.int .i64 a1_0, .int .i64 a1_1] 75 (0, 0)) (by (with_reducible repeat (first | refine blk_drewN ?_ _ | refine blk_drew ?_ | refine blk_alloc ?_ _)); exact BK172.out)) : gb172 ≠ gb173)); have n9_ := Aside0.mk ((by rw [hg]; exact Nat.ne_of_gt (blk_lt (g := gb172) (o := .cells #[.int .i64 a1_0, .int .i64 a1_1] 75 (0, 0)) (by (with_reducible repeat (first | refine blk_drewN ?_ _ | refine blk_drew ?_ | refine blk_alloc ?_ _)); exact BK172.out)) : gb173 ≠ gb172)); clear BK171; clear BK172; clear HB; have BK171 := n0_; have BK172 := n1_; have HB := n2_; have BK173 := n3_; have GW173 := n4_; have GE173 := n5_; have NB171_173 := n6_; have NB173_171 := n7_; have NB172_173 := n8_; have NB173_172 := n9_; clear n0_ n1_ n2_ n3_ n4_ n5_ n6_ n7_ n8_ n9_; clear hb hbox hg) | (go_at_call 30; (with_reducible refine (stipendlaw02_parts.calls k  false _ A4.out).mono ?_); rintro e w171 ⟨rfl, hb⟩; have n0_ := Aside0.mk (blk_below (g := gb171) (o := .cells #[.int .i64 a0_0, .int .i64 a0_1] 75 (0, 0)) (by (with_reducible repeat (first | refine blk_drewN ?_ _ | refine blk_drew ?_ | refine blk_alloc ?_ _)); exact BK171.out) hb); have n1_ := Aside0.mk (blk_below (g := gb172) (o := .cells #[.int .i64 a1_0, .int .i64 a1_1] 75 (0, 0)) (by (with_reducible repeat (first | refine blk_drewN ?_ _ | refine blk_drew ?_ | refine blk_alloc ?_ _)); exact BK172.out) hb); have n2_ := Aside0.mk (blk_below (g := gb173) (o := .cells #[.int .i64 a2_0, .int .i64 a2_1] 75 (0, 0)) (by (with_reducible repeat (first | refine blk_drewN ?_ _ | refine blk_drew ?_ | refine blk_alloc ?_ _)); exact BK173.out) hb); have n3_ := Aside0.mk (below_step (by repeat (first | (with_reducible first | exact HB.out | apply below_alloc | apply pw_below_drewN | apply below_drew1 | refine below_set ?_ GE171.out | refine below_set ?_ GE172.out | refine below_set ?_ GE173.out) | exact HB.out)) hb); clear BK171; clear BK172; clear BK173; clear HB; have BK171 := n0_; have BK172 := n1_; have BK173 := n2_; have HB := n3_; clear n0_ n1_ n2_ n3_; (try clear hb); (try clear hb2); (try clear hk); (try clear hi))); try go_wp2_with (first | ((with_reducible refine gate_dst (N := 3) rfl ?_); refine box_event ?hg (N := 3) ?hd (cs := #[.int .i64 a0_0, .int .i64 a0_1]) (t := 75) ?hr ?_; (case hd => rfl); (case hg => rfl); (case hr => first | (go_simp; done) | (go_simp; rfl)); intro gb171 hg w168 hbox hb; have n0_ := Aside0.mk (below_step (by repeat (first | (with_reducible first | exact HB.out | apply below_alloc | apply pw_below_drewN | apply below_drew1) | exact HB.out)) hb); have n1_ := Aside0.mk (hbox); have n2_ := Aside0.mk ((by rw [hg]; exact (below_size (by repeat (first | (with_reducible first | exact HB.out | apply below_alloc | apply pw_below_drewN | apply below_drew1) | exact HB.out))) : w.heap.size ≤ gb171)); have n3_ := Aside0.mk ((by rw [hg]; exact (below_size (by repeat (first | (with_reducible first | exact HB.out | apply below_alloc | apply pw_below_drewN | apply below_drew1) | exact HB.out))) : w.heap.size ≤ gb171)); clear HB; have HB := n0_; have BK171 := n1_; have GW171 := n2_; have GE171 := n3_; clear n0_ n1_ n2_ n3_; clear hb hbox hg) | ((with_reducible refine gate_dst (N := 4) rfl ?_); refine box_event ?hg (N := 4) ?hd (cs := #[.int .i64 a1_0, .int .i64 a1_1]) (t := 75) ?hr ?_; (case hd => rfl); (case hg => rfl); (case hr => first | (go_simp; done) | (go_simp; rfl)); intro gb172 hg w169 hbox hb; have n0_ := Aside0.mk (blk_below (g := gb171) (o := .cells #[.int .i64 a0_0, .int .i64 a0_1] 75 (0, 0)) (by (with_reducible repeat (first | refine blk_drewN ?_ _ | refine blk_drew ?_ | refine blk_alloc ?_ _)); exact BK171.out) hb); have n1_ := Aside0.mk (below_step (by repeat (first | (with_reducible first | exact HB.out | apply below_alloc | apply pw_below_drewN | apply below_drew1 | refine below_set ?_ GE171.out) | exact HB.out)) hb); have n2_ := Aside0.mk (hbox); have n3_ := Aside0.mk ((by rw [hg]; exact (below_size (by repeat (first | (with_reducible first | exact HB.out | apply below_alloc | apply pw_below_drewN | apply below_drew1 | refine below_set ?_ GE171.out) | exact HB.out))) : w.heap.size ≤ gb172)); have n4_ := Aside0.mk ((by rw [hg]; exact (below_size (by repeat (first | (with_reducible first | exact HB.out | apply below_alloc | apply pw_below_drewN | apply below_drew1 | refine below_set ?_ GE171.out) | exact HB.out))) : w.heap.size ≤ gb172)); have n5_ := Aside0.mk ((by rw [hg]; exact Nat.ne_of_lt (blk_lt (g := gb171) (o := .cells #[.int .i64 a0_0, .int .i64 a0_1] 75 (0, 0)) (by (with_reducible repeat (first | refine blk_drewN ?_ _ | refine blk_drew ?_ | refine blk_alloc ?_ _)); exact BK171.out)) : gb171 ≠ gb172)); have n6_ := Aside0.mk ((by rw [hg]; exact Nat.ne_of_gt (blk_lt (g := gb171) (o := .cells #[.int .i64 a0_0, .int .i64 a0_1] 75 (0, 0)) (by (with_reducible repeat (first | refine blk_drewN ?_ _ | refine blk_drew ?_ | refine blk_alloc ?_ _)); exact BK171.out)) : gb172 ≠ gb171)); clear BK171; clear HB; have BK171 := n0_; have HB := n1_; have BK172 := n2_; have GW172 := n3_; have GE172 := n4_; have NB171_172 := n5_; have NB172_171 := n6_; clear n0_ n1_ n2_ n3_ n4_ n5_ n6_; clear hb hbox hg) | ((with_reducible refine gate_dst (N := 5) rfl ?_); refine box_event ?hg (N := 5) ?hd (cs := #[.int .i64 a2_0, .int .i64 a2_1]) (t := 75) ?hr ?_; (case hd => rfl); (case hg => rfl); (case hr => first | (go_simp; done) | (go_simp; rfl)); intro gb173 hg w170 hbox hb; have n0_ := Aside0.mk (blk_below (g := gb171) (o := .cells #[.int .i64 a0_0, .int .i64 a0_1] 75 (0, 0)) (by (with_reducible repeat (first | refine blk_drewN ?_ _ | refine blk_drew ?_ | refine blk_alloc ?_ _)); exact BK171.out) hb); have n1_ := Aside0.mk (blk_below (g := gb172) (o := .cells #[.int .i64 a1_0, .int .i64 a1_1] 75 (0, 0)) (by (with_reducible repeat (first | refine blk_drewN ?_ _ | refine blk_drew ?_ | refine blk_alloc ?_ _)); exact BK172.out) hb); have n2_ := Aside0.mk (below_step (by repeat (first | (with_reducible first | exact HB.out | apply below_alloc | apply pw_below_drewN | apply below_drew1 | refine below_set ?_ GE171.out | refine below_set ?_ GE172.out) | exact HB.out)) hb); have n3_ := Aside0.mk (hbox); have n4_ := Aside0.mk ((by rw [hg]; exact (below_size (by repeat (first | (with_reducible first | exact HB.out | apply below_alloc | apply pw_below_drewN | apply below_drew1 | refine below_set ?_ GE171.out | refine below_set ?_ GE172.out) | exact HB.out))) : w.heap.size ≤ gb173)); have n5_ := Aside0.mk ((by rw [hg]; exact (below_size (by repeat (first | (with_reducible first | exact HB.out | apply below_alloc | apply pw_below_drewN | apply below_drew1 | refine below_set ?_ GE171.out | refine below_set ?_ GE172.out) | exact HB.out))) : w.heap.size ≤ gb173)); have n6_ := Aside0.mk ((by rw [hg]; exact Nat.ne_of_lt (blk_lt (g := gb171) (o := .cells #[.int .i64 a0_0, .int .i64 a0_1] 75 (0, 0)) (by (with_reducible repeat (first | refine blk_drewN ?_ _ | refine blk_drew ?_ | refine blk_alloc ?_ _)); exact BK171.out)) : gb171 ≠ gb173)); have n7_ := Aside0.mk ((by rw [hg]; exact Nat.ne_of_gt (blk_lt (g := gb171) (o := .cells #[.int .i64 a0_0, .int .i64 a0_1] 75 (0, 0)) (by (with_reducible repeat (first | refine blk_drewN ?_ _ | refine blk_drew ?_ | refine blk_alloc ?_ _)); exact BK171.out)) : gb173 ≠ gb171)); have n8_ := Aside0.mk ((by rw [hg]; exact Nat.ne_of_lt (blk_lt (g := gb172) (o := .cells #[.int .i64 a1_0, .int .i64 a1_1] 75 (0, 0)) (by (with_reducible repeat (first | refine blk_drewN ?_ _ | refine blk_drew ?_ | refine blk_alloc ?_ _)); exact BK172.out)) : gb172 ≠ gb173)); have n9_ := Aside0.mk ((by rw [hg]; exact Nat.ne_of_gt (blk_lt (g := gb172) (o := .cells #[.int .i64 a1_0, .int .i64 a1_1] 75 (0, 0)) (by (with_reducible repeat (first | refine blk_drewN ?_ _ | refine blk_drew ?_ | refine blk_alloc ?_ _)); exact BK172.out)) : gb173 ≠ gb172)); clear BK171; clear BK172; clear HB; have BK171 := n0_; have BK172 := n1_; have HB := n2_; have BK173 := n3_; have GW173 := n4_; have GE173 := n5_; have NB171_173 := n6_; have NB173_171 := n7_; have NB172_173 := n8_; have NB173_172 := n9_; clear n0_ n1_ n2_ n3_ n4_ n5_ n6_ n7_ n8_ n9_; clear hb hbox hg) | (go_at_call 30; (with_reducible refine (stipendlaw02_parts.calls k  false _ A4.out).mono ?_); rintro e w171 ⟨rfl, hb⟩; have n0_ := Aside0.mk (blk_below (g := gb171) (o := .cells #[.int .i64 a0_0, .int .i64 a0_1] 75 (0, 0)) (by (with_reducible repeat (first | refine blk_drewN ?_ _ | refine blk_drew ?_ | refine blk_alloc ?_ _)); exact BK171.out) hb); have n1_ := Aside0.mk (blk_below (g := gb172) (o := .cells #[.int .i64 a1_0, .int .i64 a1_1] 75 (0, 0)) (by (with_reducible repeat (first | refine blk_drewN ?_ _ | refine blk_drew ?_ | refine blk_alloc ?_ _)); exact BK172.out) hb); have n2_ := Aside0.mk (blk_below (g := gb173) (o := .cells #[.int .i64 a2_0, .int .i64 a2_1] 75 (0, 0)) (by (with_reducible repeat (first | refine blk_drewN ?_ _ | refine blk_drew ?_ | refine blk_alloc ?_ _)); exact BK173.out) hb); have n3_ := Aside0.mk (below_step (by repeat (first | (with_reducible first | exact HB.out | apply below_alloc | apply pw_below_drewN | apply below_drew1 | refine below_set ?_ GE171.out | refine below_set ?_ GE172.out | refine below_set ?_ GE173.out) | exact HB.out)) hb); clear BK171; clear BK172; clear BK173; clear HB; have BK171 := n0_; have BK172 := n1_; have BK173 := n2_; have HB := n3_; clear n0_ n1_ n2_ n3_; (try clear hb); (try clear hb2); (try clear hk); (try clear hi))))
    go_ret
    exact ⟨by first | rfl | (simp [errW_none, errW_some] <;> rfl) | (simp [*, errW_none, errW_some] <;> rfl), by repeat (first | (with_reducible first | exact HB.out | apply below_alloc | apply pw_below_drewN | apply below_drew1 | refine below_set ?_ GE171.out | refine below_set ?_ GE172.out | refine below_set ?_ GE173.out) | exact HB.out)⟩

/-- THE ONE PURE STATEMENT of stipendlaw02_FracCompares: yours. -/
def stipendlaw02_FracCompares.Pure : Prop := ∀ (a0_0 : Int) (a0_1 : Int) (a1_0 : Int) (a1_1 : Int) (a2_0 : Int) (a2_1 : Int), (Lit.int .i64 a0_0).wf = true → (Lit.int .i64 a0_1).wf = true → (Lit.int .i64 a1_0).wf = true → (Lit.int .i64 a1_1).wf = true → (Lit.int .i64 a2_0).wf = true → (Lit.int .i64 a2_1).wf = true → ∃ k, stipendlaw02_FracCompares.f k a0_0 a0_1 a1_0 a1_1 a2_0 a2_1 = some true
theorem stipendlaw02_FracCompares.walk (P : stipendlaw02_FracCompares.Pure) (a0_0 : Int) (a0_1 : Int) (a1_0 : Int) (a1_1 : Int) (a2_0 : Int) (a2_1 : Int) (w : World) (w0_0 : (Lit.int .i64 a0_0).wf = true) (w0_1 : (Lit.int .i64 a0_1).wf = true) (w1_0 : (Lit.int .i64 a1_0).wf = true) (w1_1 : (Lit.int .i64 a1_1).wf = true) (w2_0 : (Lit.int .i64 a2_0).wf = true) (w2_1 : (Lit.int .i64 a2_1).wf = true) :
    Calls Try.prog 11 #[.agg #[.int .i64 a0_0, .int .i64 a0_1], .agg #[.int .i64 a1_0, .int .i64 a1_1], .agg #[.int .i64 a2_0, .int .i64 a2_1]] w fun e w' => e = .returned (.bool true) ∧ Below w.heap.size w w' := by
  obtain ⟨k, h⟩ := P a0_0 a0_1 a1_0 a1_1 a2_0 a2_1 w0_0 w0_1 w1_0 w1_1 w2_0 w2_1
  refine (stipendlaw02_FracCompares.calls k a0_0 a0_1 a1_0 a1_1 a2_0 a2_1 true w h).mono ?_
  rintro e w' ⟨rfl, hd⟩
  exact ⟨rfl, hd⟩

end Go.Proofs.Ytfiomckebicphaa.X
