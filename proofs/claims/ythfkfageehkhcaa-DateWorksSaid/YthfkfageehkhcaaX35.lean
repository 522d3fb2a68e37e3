-- laid by the session's own program (xprint.py) out of Lean's print of the program; Lean checks it
import Derived.Test.YthfkfageehkhcaaX0
import Derived.Test.YthfkfageehkhcaaX1
import Derived.Test.YthfkfageehkhcaaX15
import Derived.Test.YthfkfageehkhcaaX19
import Derived.Test.YthfkfageehkhcaaX21
import Derived.Test.YthfkfageehkhcaaX31
import Derived.Test.YthfkfageehkhcaaX32
import Derived.Test.YthfkfageehkhcaaX34
namespace Go.Proofs.Ythfkfageehkhcaa.X
open Go.RowKit Go.Proofs.YthfkfageehkhcaaW.PrintWords Go.Proofs.YthfkfageehkhcaaW.PrintLast Go.Proofs.YthfkfageehkhcaaW.PrintMore
attribute [local go_sem] max2_int min2_int max_two min_two max_three min_three max_four min_four   -- for this text's walks alone
set_option linter.unusedVariables false
set_option linter.unusedSimpArgs false

attribute [local go_sem high] eqA23
/-! ### stipendlaw03_DateWorks: function 9 -/
mutual
def stipendlaw03_DateWorks.j0 : Nat → Int → Bool → Int → Int → Int → Option (Bool)
  | 0, _, _, _, _, _ => none
  | k + 1, x1, x25, x300000, x300001, x300002 => if x25 = true then (some false) else ((date_Back.f k x300000 x300001 x300002).bind fun bt302 => ((stipendref03_Number.f k x300000 x300001 x300002).bind fun t307 => (if t307 < 0 then ((date_Workdays.f k x300000 x300001 x300002 x300000 x300001 x300002).bind fun bt308 => (if bt302.2.2.2 = 30 then (if (bt302.1 == 0 && (bt302.2.1 == 0 && (bt302.2.2.1 == 0))) = true then (if bt308.2 = 30 then (if bt308.1 = 0 then ((date_Workday.f k x300000 x300001 x300002).bind fun t310 => (some (!t310))) else (some false)) else (some false)) else (some false)) else (some false))) else (stipendlaw03_DateWorks.l0 k x1 bt302.2.2.2 t307 t307 x300000 x300001 x300002 bt302.1 bt302.2.1 bt302.2.2.1))))
def stipendlaw03_DateWorks.l0 : Nat → Int → Int → Int → Int → Int → Int → Int → Int → Int → Int → Option (Bool)
  | 0, _, _, _, _, _, _, _, _, _, _ => none
  | k + 1, x1, x6, x7, x10, x300000, x300001, x300002, x307000, x307001, x307002 => if (Int.tmod x10 7) > 4 then (stipendlaw03_DateWorks.l0 k x1 x6 x7 (wrap64 (x10 - 1)) x300000 x300001 x300002 x307000 x307001 x307002) else ((stipendref03_Of.f k x10).bind fun bt311 => (if x6 = 0 then (if (!(x307000 == bt311.1) || (!(x307001 == bt311.2.1) || (!(x307002 == bt311.2.2.1)))) = true then (stipendlaw03_DateWorks.j2 k x1 x7 true x300000 x300001 x300002) else ((date_Workday.f k x300000 x300001 x300002).bind fun t316 => (stipendlaw03_DateWorks.j2 k x1 x7 (t316 != (decide ((Int.tmod x7 7) < 5))) x300000 x300001 x300002))) else (stipendlaw03_DateWorks.j2 k x1 x7 true x300000 x300001 x300002)))
def stipendlaw03_DateWorks.j2 : Nat → Int → Int → Bool → Int → Int → Int → Option (Bool)
  | 0, _, _, _, _, _, _ => none
  | k + 1, x1, x7, x86, x300000, x300001, x300002 => if x86 = true then (some false) else (if x1 < (-400) then (stipendlaw03_DateWorks.j3 k x1 x7 true x300000 x300001 x300002) else (stipendlaw03_DateWorks.j3 k x1 x7 (decide (x1 > 400)) x300000 x300001 x300002))
def stipendlaw03_DateWorks.j3 : Nat → Int → Int → Bool → Int → Int → Int → Option (Bool)
  | 0, _, _, _, _, _, _ => none
  | k + 1, x1, x7, x92, x300000, x300001, x300002 => if x92 = true then (some true) else ((stipendref03_Of.f k (wrap64 (x7 + x1))).bind fun bt317 => (if bt317.2.2.2 = true then (stipendlaw03_DateWorks.l1 k x1 x7 0 x7 x300000 x300001 x300002 bt317.1 bt317.2.1 bt317.2.2.1) else (some true)))
def stipendlaw03_DateWorks.l1 : Nat → Int → Int → Int → Int → Int → Int → Int → Int → Int → Int → Option (Bool)
  | 0, _, _, _, _, _, _, _, _, _, _ => none
  | k + 1, x1, x7, x15, x16, x300000, x300001, x300002, x322000, x322001, x322002 => if x16 ≤ (wrap64 (x7 + x1)) then (if (Int.tmod x16 7) < 5 then (stipendlaw03_DateWorks.l1 k x1 x7 (wrap64 (x15 + 1)) (wrap64 (x16 + 1)) x300000 x300001 x300002 x322000 x322001 x322002) else (stipendlaw03_DateWorks.l1 k x1 x7 x15 (wrap64 (x16 + 1)) x300000 x300001 x300002 x322000 x322001 x322002)) else ((date_Workdays.f k x300000 x300001 x300002 x322000 x322001 x322002).bind fun bt322 => (if bt322.2 = 0 then (some (bt322.1 == x15)) else (some false)))
end
def stipendlaw03_DateWorks.f (k : Nat) (a0_0 : Int) (a0_1 : Int) (a0_2 : Int) (a1 : Int) : Option (Bool) := (stipendlaw03_days.f k).bind fun t300 => (if t300 = true then ((date_Workday.f k 2024 1 31).bind fun t301 => (stipendlaw03_DateWorks.j0 k a1 (!t301) a0_0 a0_1 a0_2)) else (stipendlaw03_DateWorks.j0 k a1 true a0_0 a0_1 a0_2))
theorem stipendlaw03_DateWorks.mono_l : ∀ k, (∀ y0 y1 y2 y3 y4, LeO (stipendlaw03_DateWorks.j0 k y0 y1 y2 y3 y4) (stipendlaw03_DateWorks.j0 (k + 1) y0 y1 y2 y3 y4)) ∧ (∀ y0 y1 y2 y3 y4 y5 y6 y7 y8 y9, LeO (stipendlaw03_DateWorks.l0 k y0 y1 y2 y3 y4 y5 y6 y7 y8 y9) (stipendlaw03_DateWorks.l0 (k + 1) y0 y1 y2 y3 y4 y5 y6 y7 y8 y9)) ∧ (∀ y0 y1 y2 y3 y4 y5, LeO (stipendlaw03_DateWorks.j2 k y0 y1 y2 y3 y4 y5) (stipendlaw03_DateWorks.j2 (k + 1) y0 y1 y2 y3 y4 y5)) ∧ (∀ y0 y1 y2 y3 y4 y5, LeO (stipendlaw03_DateWorks.j3 k y0 y1 y2 y3 y4 y5) (stipendlaw03_DateWorks.j3 (k + 1) y0 y1 y2 y3 y4 y5)) ∧ (∀ y0 y1 y2 y3 y4 y5 y6 y7 y8 y9, LeO (stipendlaw03_DateWorks.l1 k y0 y1 y2 y3 y4 y5 y6 y7 y8 y9) (stipendlaw03_DateWorks.l1 (k + 1) y0 y1 y2 y3 y4 y5 y6 y7 y8 y9))
  | 0 => ⟨fun _ _ _ _ _ r h => by simp [stipendlaw03_DateWorks.j0] at h, fun _ _ _ _ _ _ _ _ _ _ r h => by simp [stipendlaw03_DateWorks.l0] at h, fun _ _ _ _ _ _ r h => by simp [stipendlaw03_DateWorks.j2] at h, fun _ _ _ _ _ _ r h => by simp [stipendlaw03_DateWorks.j3] at h, fun _ _ _ _ _ _ _ _ _ _ r h => by simp [stipendlaw03_DateWorks.l1] at h⟩
  | k + 1 => by
    obtain ⟨ih0, ih1, ih2, ih3, ih4⟩ := stipendlaw03_DateWorks.mono_l k
    refine ⟨?_, ?_, ?_, ?_, ?_⟩
    · intro y0 y1 y2 y3 y4
      unfold stipendlaw03_DateWorks.j0
      repeat' first
      | (with_reducible exact ih0 _ _ _ _ _)
      | (with_reducible exact ih1 _ _ _ _ _ _ _ _ _ _)
      | (with_reducible exact ih2 _ _ _ _ _ _)
      | (with_reducible exact ih3 _ _ _ _ _ _)
      | (with_reducible exact ih4 _ _ _ _ _ _ _ _ _ _)
      | (with_reducible exact date_Back.mono _ _ _ _)
      | (with_reducible exact date_Workday.mono _ _ _ _)
      | (with_reducible exact date_Workdays.mono _ _ _ _ _ _ _)
      | (with_reducible exact stipendlaw03_days.mono _)
      | (with_reducible exact stipendref03_Number.mono _ _ _ _)
      | (with_reducible exact stipendref03_Of.mono _ _)
      | (with_reducible exact LeO.refl _)
      | (with_reducible exact LeO.none _)
      | (with_reducible refine LeO.ite ?_ ?_)
      | (with_reducible refine LeO.bind ?_ (fun _ => ?_))
      | exact ih0 _ _ _ _ _
      | exact ih1 _ _ _ _ _ _ _ _ _ _
      | exact ih2 _ _ _ _ _ _
      | exact ih3 _ _ _ _ _ _
      | exact ih4 _ _ _ _ _ _ _ _ _ _
      | exact date_Back.mono _ _ _ _
      | exact date_Workday.mono _ _ _ _
      | exact date_Workdays.mono _ _ _ _ _ _ _
      | exact stipendlaw03_days.mono _
      | exact stipendref03_Number.mono _ _ _ _
      | exact stipendref03_Of.mono _ _
      | exact LeO.none _
      | refine LeO.ite ?_ ?_
      | refine LeO.bind ?_ (fun _ => ?_)
    · intro y0 y1 y2 y3 y4 y5 y6 y7 y8 y9
      unfold stipendlaw03_DateWorks.l0
      repeat' first
      | (with_reducible exact ih0 _ _ _ _ _)
      | (with_reducible exact ih1 _ _ _ _ _ _ _ _ _ _)
      | (with_reducible exact ih2 _ _ _ _ _ _)
      | (with_reducible exact ih3 _ _ _ _ _ _)
      | (with_reducible exact ih4 _ _ _ _ _ _ _ _ _ _)
      | (with_reducible exact date_Back.mono _ _ _ _)
      | (with_reducible exact date_Workday.mono _ _ _ _)
      | (with_reducible exact date_Workdays.mono _ _ _ _ _ _ _)
      | (with_reducible exact stipendlaw03_days.mono _)
      | (with_reducible exact stipendref03_Number.mono _ _ _ _)
      | (with_reducible exact stipendref03_Of.mono _ _)
      | (with_reducible exact LeO.refl _)
      | (with_reducible exact LeO.none _)
      | (with_reducible refine LeO.ite ?_ ?_)
      | (with_reducible refine LeO.bind ?_ (fun _ => ?_))
      | exact ih0 _ _ _ _ _
      | exact ih1 _ _ _ _ _ _ _ _ _ _
      | exact ih2 _ _ _ _ _ _
      | exact ih3 _ _ _ _ _ _
      | exact ih4 _ _ _ _ _ _ _ _ _ _
      | exact date_Back.mono _ _ _ _
      | exact date_Workday.mono _ _ _ _
      | exact date_Workdays.mono _ _ _ _ _ _ _
      | exact stipendlaw03_days.mono _
      | exact stipendref03_Number.mono _ _ _ _
      | exact stipendref03_Of.mono _ _
      | exact LeO.none _
      | refine LeO.ite ?_ ?_
      | refine LeO.bind ?_ (fun _ => ?_)
    · intro y0 y1 y2 y3 y4 y5
      unfold stipendlaw03_DateWorks.j2
      repeat' first
      | (with_reducible exact ih0 _ _ _ _ _)
      | (with_reducible exact ih1 _ _ _ _ _ _ _ _ _ _)
      | (with_reducible exact ih2 _ _ _ _ _ _)
      | (with_reducible exact ih3 _ _ _ _ _ _)
      | (with_reducible exact ih4 _ _ _ _ _ _ _ _ _ _)
      | (with_reducible exact date_Back.mono _ _ _ _)
      | (with_reducible exact date_Workday.mono _ _ _ _)
      | (with_reducible exact date_Workdays.mono _ _ _ _ _ _ _)
      | (with_reducible exact stipendlaw03_days.mono _)
      | (with_reducible exact stipendref03_Number.mono _ _ _ _)
      | (with_reducible exact stipendref03_Of.mono _ _)
      | (with_reducible exact LeO.refl _)
      | (with_reducible exact LeO.none _)
      | (with_reducible refine LeO.ite ?_ ?_)
      | (with_reducible refine LeO.bind ?_ (fun _ => ?_))
      | exact ih0 _ _ _ _ _
      | exact ih1 _ _ _ _ _ _ _ _ _ _
      | exact ih2 _ _ _ _ _ _
      | exact ih3 _ _ _ _ _ _
      | exact ih4 _ _ _ _ _ _ _ _ _ _
      | exact date_Back.mono _ _ _ _
      | exact date_Workday.mono _ _ _ _
      | exact date_Workdays.mono _ _ _ _ _ _ _
      | exact stipendlaw03_days.mono _
      | exact stipendref03_Number.mono _ _ _ _
      | exact stipendref03_Of.mono _ _
      | exact LeO.none _
      | refine LeO.ite ?_ ?_
      | refine LeO.bind ?_ (fun _ => ?_)
    · intro y0 y1 y2 y3 y4 y5
      unfold stipendlaw03_DateWorks.j3
      repeat' first
      | (with_reducible exact ih0 _ _ _ _ _)
      | (with_reducible exact ih1 _ _ _ _ _ _ _ _ _ _)
      | (with_reducible exact ih2 _ _ _ _ _ _)
      | (with_reducible exact ih3 _ _ _ _ _ _)
      | (with_reducible exact ih4 _ _ _ _ _ _ _ _ _ _)
      | (with_reducible exact date_Back.mono _ _ _ _)
      | (with_reducible exact date_Workday.mono _ _ _ _)
      | (with_reducible exact date_Workdays.mono _ _ _ _ _ _ _)
      | (with_reducible exact stipendlaw03_days.mono _)
      | (with_reducible exact stipendref03_Number.mono _ _ _ _)
      | (with_reducible exact stipendref03_Of.mono _ _)
      | (with_reducible exact LeO.refl _)
      | (with_reducible exact LeO.none _)
      | (with_reducible refine LeO.ite ?_ ?_)
      | (with_reducible refine LeO.bind ?_ (fun _ => ?_))
      | exact ih0 _ _ _ _ _
      | exact ih1 _ _ _ _ _ _ _ _ _ _
      | exact ih2 _ _ _ _ _ _
      | exact ih3 _ _ _ _ _ _
      | exact ih4 _ _ _ _ _ _ _ _ _ _
      | exact date_Back.mono _ _ _ _
      | exact date_Workday.mono _ _ _ _
      | exact date_Workdays.mono _ _ _ _ _ _ _
      | exact stipendlaw03_days.mono _
      | exact stipendref03_Number.mono _ _ _ _
      | exact stipendref03_Of.mono _ _
      | exact LeO.none _
      | refine LeO.ite ?_ ?_
      | refine LeO.bind ?_ (fun _ => ?_)
    · intro y0 y1 y2 y3 y4 y5 y6 y7 y8 y9
      unfold stipendlaw03_DateWorks.l1
      repeat' first
      | (with_reducible exact ih0 _ _ _ _ _)
      | (with_reducible exact ih1 _ _ _ _ _ _ _ _ _ _)
      | (with_reducible exact ih2 _ _ _ _ _ _)
      | (with_reducible exact ih3 _ _ _ _ _ _)
      | (with_reducible exact ih4 _ _ _ _ _ _ _ _ _ _)
      | (with_reducible exact date_Back.mono _ _ _ _)
      | (with_reducible exact date_Workday.mono _ _ _ _)
      | (with_reducible exact date_Workdays.mono _ _ _ _ _ _ _)
      | (with_reducible exact stipendlaw03_days.mono _)
      | (with_reducible exact stipendref03_Number.mono _ _ _ _)
      | (with_reducible exact stipendref03_Of.mono _ _)
      | (with_reducible exact LeO.refl _)
      | (with_reducible exact LeO.none _)
      | (with_reducible refine LeO.ite ?_ ?_)
      | (with_reducible refine LeO.bind ?_ (fun _ => ?_))
      | exact ih0 _ _ _ _ _
      | exact ih1 _ _ _ _ _ _ _ _ _ _
      | exact ih2 _ _ _ _ _ _
      | exact ih3 _ _ _ _ _ _
      | exact ih4 _ _ _ _ _ _ _ _ _ _
      | exact date_Back.mono _ _ _ _
      | exact date_Workday.mono _ _ _ _
      | exact date_Workdays.mono _ _ _ _ _ _ _
      | exact stipendlaw03_days.mono _
      | exact stipendref03_Number.mono _ _ _ _
      | exact stipendref03_Of.mono _ _
      | exact LeO.none _
      | refine LeO.ite ?_ ?_
      | refine LeO.bind ?_ (fun _ => ?_)
theorem stipendlaw03_DateWorks.mono : ∀ a0 a1 a2 a3 k, LeO (stipendlaw03_DateWorks.f k a0 a1 a2 a3) (stipendlaw03_DateWorks.f (k + 1) a0 a1 a2 a3) := by
  intro a0 a1 a2 a3 k
  obtain ⟨ih0, ih1, ih2, ih3, ih4⟩ := stipendlaw03_DateWorks.mono_l k
  unfold stipendlaw03_DateWorks.f
  repeat' first
      | (with_reducible exact ih0 _ _ _ _ _)
      | (with_reducible exact ih1 _ _ _ _ _ _ _ _ _ _)
      | (with_reducible exact ih2 _ _ _ _ _ _)
      | (with_reducible exact ih3 _ _ _ _ _ _)
      | (with_reducible exact ih4 _ _ _ _ _ _ _ _ _ _)
      | (with_reducible exact date_Back.mono _ _ _ _)
      | (with_reducible exact date_Workday.mono _ _ _ _)
      | (with_reducible exact date_Workdays.mono _ _ _ _ _ _ _)
      | (with_reducible exact stipendlaw03_days.mono _)
      | (with_reducible exact stipendref03_Number.mono _ _ _ _)
      | (with_reducible exact stipendref03_Of.mono _ _)
      | (with_reducible exact LeO.refl _)
      | (with_reducible exact LeO.none _)
      | (with_reducible refine LeO.ite ?_ ?_)
      | (with_reducible refine LeO.bind ?_ (fun _ => ?_))
      | exact ih0 _ _ _ _ _
      | exact ih1 _ _ _ _ _ _ _ _ _ _
      | exact ih2 _ _ _ _ _ _
      | exact ih3 _ _ _ _ _ _
      | exact ih4 _ _ _ _ _ _ _ _ _ _
      | exact date_Back.mono _ _ _ _
      | exact date_Workday.mono _ _ _ _
      | exact date_Workdays.mono _ _ _ _ _ _ _
      | exact stipendlaw03_days.mono _
      | exact stipendref03_Number.mono _ _ _ _
      | exact stipendref03_Of.mono _ _
      | exact LeO.none _
      | refine LeO.ite ?_ ?_
      | refine LeO.bind ?_ (fun _ => ?_)
set_option maxHeartbeats 8000000 in
set_option maxRecDepth 100000 in
theorem stipendlaw03_DateWorks.calls (k : Nat) (a0_0 : Int) (a0_1 : Int) (a0_2 : Int) (a1 : Int) (r : Bool) (w : World) (h : stipendlaw03_DateWorks.f k a0_0 a0_1 a0_2 a1 = some r) :
    Calls Try.prog 9 #[.agg #[.int .i64 a0_0, .int .i64 a0_1, .int .i64 a0_2], .int .i64 a1] w fun e w' => e = .returned (.bool r) ∧ Below w.heap.size w w' := by
  have hu23 := Try.underlying23
  have HB := Aside0.mk (Below.refl w.heap.size w)
  have H : ((stipendlaw03_days.f k).bind fun t300 => (if t300 = true then ((date_Workday.f k 2024 1 31).bind fun t301 => (stipendlaw03_DateWorks.j0 k a1 (!t301) a0_0 a0_1 a0_2)) else (stipendlaw03_DateWorks.j0 k a1 true a0_0 a0_1 a0_2))) = some r := h
  clear h
  have HC3 := Aside0.mk H
  clear H
  go_enter Try.func9, Try.ntmps9
  go_upto_region 1 with (first | ((with_reducible refine gate_dst (N := 2) rfl ?_); refine box_event ?hg (N := 2) ?hd (cs := #[.int .i64 a0_0, .int .i64 a0_1, .int .i64 a0_2]) (t := 23) ?hr ?_; (case hd => rfl); (case hg => rfl); (case hr => first | (go_simp; done) | (go_simp; rfl)); intro gb299 hg w4 hbox hb; have n0_ := Aside0.mk (below_step (by repeat (first | (with_reducible first | exact HB.out | apply below_alloc | apply pw_below_drewN | apply below_drew1) | exact HB.out)) hb); have n1_ := Aside0.mk (hbox); have n2_ := Aside0.mk ((by rw [hg]; exact (below_size (by repeat (first | (with_reducible first | exact HB.out | apply below_alloc | apply pw_below_drewN | apply below_drew1) | exact HB.out))) : w.heap.size ≤ gb299)); have n3_ := Aside0.mk ((by rw [hg]; exact (below_size (by repeat (first | (with_reducible first | exact HB.out | apply below_alloc | apply pw_below_drewN | apply below_drew1) | exact HB.out))) : w.heap.size ≤ gb299)); clear HB; have HB := n0_; have BK299 := n1_; have GW299 := n2_; have GE299 := n3_; clear n0_ n1_ n2_ n3_; clear hb hbox hg))
  (try simp only [Act.put, List.setIfInBounds_toArray, List.set_cons_zero, List.set_cons_succ])
  go_cut [25] (fun v25 wc => ∃ (kq : Nat) (x25_2 : Bool), v25 = .bool x25_2 ∧ Aside0 (stipendlaw03_DateWorks.j0 kq a1 x25_2 a0_0 a0_1 a0_2 = some r) ∧ Aside0 (kq ≤ k) ∧ Aside0 (wc.heap[gb299]? = some (.cells #[.int .i64 a0_0, .int .i64 a0_1, .int .i64 a0_2] 23 (0, 0))) ∧ Aside0 (Below w.heap.size w wc))
  case first =>
    have H := HC3.out
    clear HC3
    replace H := Option.bind_eq_some_iff.mp H
    obtain ⟨t300, A50, H⟩ := H
    replace H : (if t300 = true then ((date_Workday.f k 2024 1 31).bind fun t301 => (stipendlaw03_DateWorks.j0 k a1 (!t301) a0_0 a0_1 a0_2)) else (stipendlaw03_DateWorks.j0 k a1 true a0_0 a0_1 a0_2)) = some r := H
    have A5 := Aside0.mk A50
    clear A50
    by_cases c6 : t300 = true
    · subst c6
      have H1 : ((date_Workday.f k 2024 1 31).bind fun t301 => (stipendlaw03_DateWorks.j0 k a1 (!t301) a0_0 a0_1 a0_2)) = some r := by rw [if_pos rfl] at H; exact H
      clear H
      have H := H1
      clear H1
      replace H := Option.bind_eq_some_iff.mp H
      obtain ⟨t301, A70, H⟩ := H
      replace H : (stipendlaw03_DateWorks.j0 k a1 (!t301) a0_0 a0_1 a0_2) = some r := H
      have A7 := Aside0.mk A70
      clear A70
      have H' := Aside0.mk H
      clear H
      go_wp2_with (first | ((with_reducible refine gate_callee (f := 10) rfl ?_); refine goesL_ (some 19) rfl rfl Try.func10 (by kernel_rfl) rfl #[] rfl (by (try simp only [List.map_toArray, List.map_cons, List.map_nil]); first | done | rfl | (simp only [List.length_drop, List.length_take]; rfl)) ?_; (with_reducible refine (stipendlaw03_days.calls k  true _ A5.out).mono ?_); rintro e w8 ⟨rfl, hb⟩; refine ⟨_, rfl, ?_⟩; have n0_ := Aside0.mk (blk_below (g := gb299) (o := .cells #[.int .i64 a0_0, .int .i64 a0_1, .int .i64 a0_2] 23 (0, 0)) (by (with_reducible repeat (first | refine blk_drewN ?_ _ | refine blk_drew ?_ | refine blk_alloc ?_ _)); exact BK299.out) hb); have n1_ := Aside0.mk (below_step (by repeat (first | (with_reducible first | exact HB.out | apply below_alloc | apply pw_below_drewN | apply below_drew1 | refine below_set ?_ GE299.out) | exact HB.out)) hb); clear BK299; clear HB; have BK299 := n0_; have HB := n1_; clear n0_ n1_; (try clear hb); (try clear hb2); (try clear hk); (try clear hi)) | (go_at_call 29; (with_reducible refine (date_Workday.calls k 2024 1 31 t301 _ A7.out).mono ?_); rintro e w9 ⟨rfl, hb⟩; have n0_ := Aside0.mk (blk_below (g := gb299) (o := .cells #[.int .i64 a0_0, .int .i64 a0_1, .int .i64 a0_2] 23 (0, 0)) (by (with_reducible repeat (first | refine blk_drewN ?_ _ | refine blk_drew ?_ | refine blk_alloc ?_ _)); exact BK299.out) hb); have n1_ := Aside0.mk (below_step (by repeat (first | (with_reducible first | exact HB.out | apply below_alloc | apply pw_below_drewN | apply below_drew1 | refine below_set ?_ GE299.out) | exact HB.out)) hb); clear BK299; clear HB; have BK299 := n0_; have HB := n1_; clear n0_ n1_; (try clear hb); (try clear hb2); (try clear hk); (try clear hi)))
      go_meet
      case rel => exact ⟨_, (!t301), (by first | rfl | (simp; done) | (simp [*]; done)), H', ⟨by first | omega | exact Nat.le_refl _⟩, ⟨by (with_reducible repeat (first | refine blk_drewN ?_ _ | refine blk_drew ?_ | refine blk_alloc ?_ _)); exact BK299.out⟩, ⟨by repeat (first | (with_reducible first | exact HB.out | apply below_alloc | apply pw_below_drewN | apply below_drew1 | refine below_set ?_ GE299.out) | exact HB.out)⟩⟩
    · replace c6 := Bool.eq_false_iff.mpr c6
      subst c6
      have H1 : (stipendlaw03_DateWorks.j0 k a1 true a0_0 a0_1 a0_2) = some r := by rw [if_neg (show ¬ (false = true) by decide)] at H; exact H
      clear H
      have H := H1
      clear H1
      have H' := Aside0.mk H
      clear H
      go_wp2_with (first | ((with_reducible refine gate_callee (f := 10) rfl ?_); refine goesL_ (some 19) rfl rfl Try.func10 (by kernel_rfl) rfl #[] rfl (by (try simp only [List.map_toArray, List.map_cons, List.map_nil]); first | done | rfl | (simp only [List.length_drop, List.length_take]; rfl)) ?_; (with_reducible refine (stipendlaw03_days.calls k  false _ A5.out).mono ?_); rintro e w10 ⟨rfl, hb⟩; refine ⟨_, rfl, ?_⟩; have n0_ := Aside0.mk (blk_below (g := gb299) (o := .cells #[.int .i64 a0_0, .int .i64 a0_1, .int .i64 a0_2] 23 (0, 0)) (by (with_reducible repeat (first | refine blk_drewN ?_ _ | refine blk_drew ?_ | refine blk_alloc ?_ _)); exact BK299.out) hb); have n1_ := Aside0.mk (below_step (by repeat (first | (with_reducible first | exact HB.out | apply below_alloc | apply pw_below_drewN | apply below_drew1 | refine below_set ?_ GE299.out) | exact HB.out)) hb); clear BK299; clear HB; have BK299 := n0_; have HB := n1_; clear n0_ n1_; (try clear hb); (try clear hb2); (try clear hk); (try clear hi)))
      go_meet
      case rel => exact ⟨_, (true), (by first | rfl | (simp; done) | (simp [*]; done)), H', ⟨by first | omega | exact Nat.le_refl _⟩, ⟨by (with_reducible repeat (first | refine blk_drewN ?_ _ | refine blk_drew ?_ | refine blk_alloc ?_ _)); exact BK299.out⟩, ⟨by repeat (first | (with_reducible first | exact HB.out | apply below_alloc | apply pw_below_drewN | apply below_drew1 | refine below_set ?_ GE299.out) | exact HB.out)⟩⟩
  case rest =>
    clear HC3
    try clear c1
    try clear p2
    try clear c6
    try clear c9
    try clear c10
    obtain ⟨kq, x25_2, rfl, HA, HJ2, BK299, HB⟩ := hcut
    cases kq with
    | zero => exact absurd HA.out (by simp [stipendlaw03_DateWorks.j0])
    | succ kj2 =>
      have H := HA.out
      clear HA
      simp only [stipendlaw03_DateWorks.j0] at H
      by_cases c11 : x25_2 = true
      · subst c11
        have H1 : (some false) = some r := by rw [if_pos rfl] at H; exact H
        clear H
        have H := H1
        clear H1
        obtain rfl := Option.some.inj H
        go_wp2
        go_ret
        exact ⟨by first | rfl | (simp [errW_none, errW_some] <;> rfl) | (simp [*, errW_none, errW_some] <;> rfl), by repeat (first | (with_reducible first | exact HB.out | apply below_alloc | apply pw_below_drewN | apply below_drew1 | refine below_set ?_ GE299.out) | exact HB.out)⟩
      · replace c11 := Bool.eq_false_iff.mpr c11
        subst c11
        have H1 : ((date_Back.f kj2 a0_0 a0_1 a0_2).bind fun bt302 => ((stipendref03_Number.f kj2 a0_0 a0_1 a0_2).bind fun t307 => (if t307 < 0 then ((date_Workdays.f kj2 a0_0 a0_1 a0_2 a0_0 a0_1 a0_2).bind fun bt308 => (if bt302.2.2.2 = 30 then (if (bt302.1 == 0 && (bt302.2.1 == 0 && (bt302.2.2.1 == 0))) = true then (if bt308.2 = 30 then (if bt308.1 = 0 then ((date_Workday.f kj2 a0_0 a0_1 a0_2).bind fun t310 => (some (!t310))) else (some false)) else (some false)) else (some false)) else (some false))) else (stipendlaw03_DateWorks.l0 kj2 a1 bt302.2.2.2 t307 t307 a0_0 a0_1 a0_2 bt302.1 bt302.2.1 bt302.2.2.1)))) = some r := by rw [if_neg (show ¬ (false = true) by decide)] at H; exact H
        clear H
        have H := H1
        clear H1
        replace H := Option.bind_eq_some_iff.mp H
        obtain ⟨⟨t302, t303, t304, t305⟩, A120, H⟩ := H
        replace H : ((stipendref03_Number.f kj2 a0_0 a0_1 a0_2).bind fun t307 => (if t307 < 0 then ((date_Workdays.f kj2 a0_0 a0_1 a0_2 a0_0 a0_1 a0_2).bind fun bt308 => (if t305 = 30 then (if (t302 == 0 && (t303 == 0 && (t304 == 0))) = true then (if bt308.2 = 30 then (if bt308.1 = 0 then ((date_Workday.f kj2 a0_0 a0_1 a0_2).bind fun t310 => (some (!t310))) else (some false)) else (some false)) else (some false)) else (some false))) else (stipendlaw03_DateWorks.l0 kj2 a1 t305 t307 t307 a0_0 a0_1 a0_2 t302 t303 t304))) = some r := H
        have A12 := Aside0.mk A120
        clear A120
        replace H := Option.bind_eq_some_iff.mp H
        obtain ⟨t307, A130, H⟩ := H
        replace H : (if t307 < 0 then ((date_Workdays.f kj2 a0_0 a0_1 a0_2 a0_0 a0_1 a0_2).bind fun bt308 => (if t305 = 30 then (if (t302 == 0 && (t303 == 0 && (t304 == 0))) = true then (if bt308.2 = 30 then (if bt308.1 = 0 then ((date_Workday.f kj2 a0_0 a0_1 a0_2).bind fun t310 => (some (!t310))) else (some false)) else (some false)) else (some false)) else (some false))) else (stipendlaw03_DateWorks.l0 kj2 a1 t305 t307 t307 a0_0 a0_1 a0_2 t302 t303 t304)) = some r := H
        have A13 := Aside0.mk A130
        clear A130
        by_cases c14 : t307 < 0
        · rw [if_pos c14] at H
          have c14b0 : decide (t307 < 0) = true := decide_eq_true c14
          clear c14
          replace H := Option.bind_eq_some_iff.mp H
          obtain ⟨⟨t308, t309⟩, A150, H⟩ := H
          replace H : (if t305 = 30 then (if (t302 == 0 && (t303 == 0 && (t304 == 0))) = true then (if t309 = 30 then (if t308 = 0 then ((date_Workday.f kj2 a0_0 a0_1 a0_2).bind fun t310 => (some (!t310))) else (some false)) else (some false)) else (some false)) else (some false)) = some r := H
          have A15 := Aside0.mk A150
          clear A150
          by_cases c16 : t305 = 30
          · rw [if_pos c16] at H
            have c16b0 : (t305 == 30) = true := beq_iff_eq.mpr c16
            have c16b1 : (t305 != 30) = false := bne_eq_false_iff_eq.mpr c16
            clear c16
            by_cases c17 : (t302 == 0 && (t303 == 0 && (t304 == 0))) = true
            · rw [if_pos c17] at H
              have c17b0 : (t302 == 0 && (t303 == 0 && (t304 == 0))) = true := c17
              (try (have c17b1 : decide (t302 = 0 && (t303 == 0 && (t304 == 0))) = true := by simpa using c17))
              (try (have c17b2 : (t302 == 0 && (t303 == 0 && (t304 == 0))) = true := by simpa using c17))
              clear c17
              by_cases c18 : t309 = 30
              · rw [if_pos c18] at H
                have c18b0 : (t309 == 30) = true := beq_iff_eq.mpr c18
                have c18b1 : (t309 != 30) = false := bne_eq_false_iff_eq.mpr c18
                clear c18
                by_cases c19 : t308 = 0
                · rw [if_pos c19] at H
                  have c19b0 : (t308 == 0) = true := beq_iff_eq.mpr c19
                  have c19b1 : (t308 != 0) = false := bne_eq_false_iff_eq.mpr c19
                  clear c19
                  replace H := Option.bind_eq_some_iff.mp H
                  obtain ⟨t310, A200, H⟩ := H
                  replace H : (some (!t310)) = some r := H
                  have A20 := Aside0.mk A200
                  clear A200
                  obtain rfl := Option.some.inj H
                  have hcz21_0 : wc.cell? ⟨gb299, 0, none⟩ = some (.int .i64 a0_0) := (blk_cell BK299.out 0).trans rfl
                  have hcz21_1 : wc.cell? ⟨gb299, 1, none⟩ = some (.int .i64 a0_1) := (blk_cell BK299.out 1).trans rfl
                  have hcz21_2 : wc.cell? ⟨gb299, 2, none⟩ = some (.int .i64 a0_2) := (blk_cell BK299.out 2).trans rfl
                  have hfz21_0 := blk_frozen BK299.out 0
                  have hfz21_1 := blk_frozen BK299.out 1
                  have hfz21_2 := blk_frozen BK299.out 2
                  go_wp2_with (first | ((with_reducible refine gate_callee (f := 30) rfl ?_); refine goesL_ (some 28) rfl rfl Try.func30 (by kernel_rfl) rfl #[.agg #[.int .i64 a0_0, .int .i64 a0_1, .int .i64 a0_2]] rfl (by (try simp only [List.map_toArray, List.map_cons, List.map_nil]); first | done | rfl | (simp only [List.length_drop, List.length_take]; rfl)) ?_; (with_reducible refine (date_Back.calls kj2 a0_0 a0_1 a0_2 t302 t303 t304 t305 _ A12.out).mono ?_); rintro e w22 ⟨rfl, hb⟩; refine ⟨_, rfl, ?_⟩; have n0_ := Aside0.mk (blk_below (g := gb299) (o := .cells #[.int .i64 a0_0, .int .i64 a0_1, .int .i64 a0_2] 23 (0, 0)) (by (with_reducible repeat (first | refine blk_drewN ?_ _ | refine blk_drew ?_ | refine blk_alloc ?_ _)); exact BK299.out) hb); have n1_ := Aside0.mk (below_step (by repeat (first | (with_reducible first | exact HB.out | apply below_alloc | apply pw_below_drewN | apply below_drew1 | refine below_set ?_ GE299.out) | exact HB.out)) hb); clear BK299; clear HB; have BK299 := n0_; have HB := n1_; clear n0_ n1_; (try clear hb); (try clear hb2); (try clear hk); (try clear hi)) | ((with_reducible refine gate_dst (N := 5) rfl ?_); refine box_event ?hg (N := 5) ?hd (cs := #[.int .i64 0, .int .i64 0, .int .i64 0]) (t := 23) ?hr ?_; (case hd => rfl); (case hg => rfl); (case hr => first | (go_simp; done) | (go_simp; rfl)); intro gb306 hg w23 hbox hb; have n0_ := Aside0.mk (blk_below (g := gb299) (o := .cells #[.int .i64 a0_0, .int .i64 a0_1, .int .i64 a0_2] 23 (0, 0)) (by (with_reducible repeat (first | refine blk_drewN ?_ _ | refine blk_drew ?_ | refine blk_alloc ?_ _)); exact BK299.out) hb); have n1_ := Aside0.mk (below_step (by repeat (first | (with_reducible first | exact HB.out | apply below_alloc | apply pw_below_drewN | apply below_drew1 | refine below_set ?_ GE299.out) | exact HB.out)) hb); have n2_ := Aside0.mk (hbox); have n3_ := Aside0.mk ((by rw [hg]; exact (below_size (by repeat (first | (with_reducible first | exact HB.out | apply below_alloc | apply pw_below_drewN | apply below_drew1 | refine below_set ?_ GE299.out) | exact HB.out))) : w.heap.size ≤ gb306)); have n4_ := Aside0.mk ((by rw [hg]; exact (below_size (by repeat (first | (with_reducible first | exact HB.out | apply below_alloc | apply pw_below_drewN | apply below_drew1 | refine below_set ?_ GE299.out) | exact HB.out))) : w.heap.size ≤ gb306)); have n5_ := Aside0.mk ((by rw [hg]; exact Nat.ne_of_lt (blk_lt (g := gb299) (o := .cells #[.int .i64 a0_0, .int .i64 a0_1, .int .i64 a0_2] 23 (0, 0)) (by (with_reducible repeat (first | refine blk_drewN ?_ _ | refine blk_drew ?_ | refine blk_alloc ?_ _)); exact BK299.out)) : gb299 ≠ gb306)); have n6_ := Aside0.mk ((by rw [hg]; exact Nat.ne_of_gt (blk_lt (g := gb299) (o := .cells #[.int .i64 a0_0, .int .i64 a0_1, .int .i64 a0_2] 23 (0, 0)) (by (with_reducible repeat (first | refine blk_drewN ?_ _ | refine blk_drew ?_ | refine blk_alloc ?_ _)); exact BK299.out)) : gb306 ≠ gb299)); clear BK299; clear HB; have BK299 := n0_; have HB := n1_; have BK306 := n2_; have GW306 := n3_; have GE306 := n4_; have NB299_306 := n5_; have NB306_299 := n6_; clear n0_ n1_ n2_ n3_ n4_ n5_ n6_; clear hb hbox hg; have hnb24 := NB306_299.out; have hnc24 := NB299_306.out; have hcz25_0 : w23.cell? ⟨gb306, 0, none⟩ = some (.int .i64 0) := (blk_cell BK306.out 0).trans rfl; have hcz25_1 : w23.cell? ⟨gb306, 1, none⟩ = some (.int .i64 0) := (blk_cell BK306.out 1).trans rfl; have hcz25_2 : w23.cell? ⟨gb306, 2, none⟩ = some (.int .i64 0) := (blk_cell BK306.out 2).trans rfl; have hfz25_0 := blk_frozen BK306.out 0; have hfz25_1 := blk_frozen BK306.out 1; have hfz25_2 := blk_frozen BK306.out 2; have hcz26_0 : w23.cell? ⟨gb299, 0, none⟩ = some (.int .i64 a0_0) := (blk_cell BK299.out 0).trans rfl; have hcz26_1 : w23.cell? ⟨gb299, 1, none⟩ = some (.int .i64 a0_1) := (blk_cell BK299.out 1).trans rfl; have hcz26_2 : w23.cell? ⟨gb299, 2, none⟩ = some (.int .i64 a0_2) := (blk_cell BK299.out 2).trans rfl; have hfz26_0 := blk_frozen BK299.out 0; have hfz26_1 := blk_frozen BK299.out 1; have hfz26_2 := blk_frozen BK299.out 2) | ((with_reducible refine gate_callee (f := 13) rfl ?_); refine goesL_ (some 32) rfl rfl Try.func13 (by kernel_rfl) rfl #[.agg #[.int .i64 a0_0, .int .i64 a0_1, .int .i64 a0_2]] rfl (by (try simp only [List.map_toArray, List.map_cons, List.map_nil]); first | done | rfl | (simp only [List.length_drop, List.length_take]; rfl)) ?_; (with_reducible refine (stipendref03_Number.calls kj2 a0_0 a0_1 a0_2 t307 _ A13.out).mono ?_); rintro e w27 ⟨rfl, hb⟩; refine ⟨_, rfl, ?_⟩; have n0_ := Aside0.mk (blk_below (g := gb299) (o := .cells #[.int .i64 a0_0, .int .i64 a0_1, .int .i64 a0_2] 23 (0, 0)) (by (with_reducible repeat (first | refine blk_drewN ?_ _ | refine blk_drew ?_ | refine blk_alloc ?_ _)); refine blk_far ?_ NB299_306.out _; (with_reducible repeat (first | refine blk_drewN ?_ _ | refine blk_drew ?_ | refine blk_alloc ?_ _)); refine blk_far ?_ NB299_306.out _; (with_reducible repeat (first | refine blk_drewN ?_ _ | refine blk_drew ?_ | refine blk_alloc ?_ _)); refine blk_far ?_ NB299_306.out _; (with_reducible repeat (first | refine blk_drewN ?_ _ | refine blk_drew ?_ | refine blk_alloc ?_ _)); exact BK299.out) hb); have n1_ := Aside0.mk (blk_below (g := gb306) (o := .cells #[.int .i64 t302, .int .i64 t303, .int .i64 t304] 23 (0, 0)) (by (with_reducible repeat (first | refine blk_drewN ?_ _ | refine blk_drew ?_ | refine blk_alloc ?_ _)); refine blk_put (cs := #[.int .i64 t302, .int .i64 t303, .int .i64 0]) ?_ 2 _ rfl; (with_reducible repeat (first | refine blk_drewN ?_ _ | refine blk_drew ?_ | refine blk_alloc ?_ _)); refine blk_put (cs := #[.int .i64 t302, .int .i64 0, .int .i64 0]) ?_ 1 _ rfl; (with_reducible repeat (first | refine blk_drewN ?_ _ | refine blk_drew ?_ | refine blk_alloc ?_ _)); refine blk_put (cs := #[.int .i64 0, .int .i64 0, .int .i64 0]) ?_ 0 _ rfl; (with_reducible repeat (first | refine blk_drewN ?_ _ | refine blk_drew ?_ | refine blk_alloc ?_ _)); exact BK306.out) hb); have n2_ := Aside0.mk (below_step (by repeat (first | (with_reducible first | exact HB.out | apply below_alloc | apply pw_below_drewN | apply below_drew1 | refine below_set ?_ GE299.out | refine below_set ?_ GE306.out) | exact HB.out)) hb); clear BK299; clear BK306; clear HB; have BK299 := n0_; have BK306 := n1_; have HB := n2_; clear n0_ n1_ n2_; (try clear hb); (try clear hb2); (try clear hk); (try clear hi); have hcz28_0 : w27.cell? ⟨gb299, 0, none⟩ = some (.int .i64 a0_0) := (blk_cell BK299.out 0).trans rfl; have hcz28_1 : w27.cell? ⟨gb299, 1, none⟩ = some (.int .i64 a0_1) := (blk_cell BK299.out 1).trans rfl; have hcz28_2 : w27.cell? ⟨gb299, 2, none⟩ = some (.int .i64 a0_2) := (blk_cell BK299.out 2).trans rfl; have hfz28_0 := blk_frozen BK299.out 0; have hfz28_1 := blk_frozen BK299.out 1; have hfz28_2 := blk_frozen BK299.out 2) | ((with_reducible refine gate_callee (f := 31) rfl ?_); refine goesL_ (some 38) rfl rfl Try.func31 (by kernel_rfl) rfl #[.agg #[.int .i64 a0_0, .int .i64 a0_1, .int .i64 a0_2], .agg #[.int .i64 a0_0, .int .i64 a0_1, .int .i64 a0_2]] rfl (by (try simp only [List.map_toArray, List.map_cons, List.map_nil]); first | done | rfl | (simp only [List.length_drop, List.length_take]; rfl)) ?_; (with_reducible refine (date_Workdays.calls kj2 a0_0 a0_1 a0_2 a0_0 a0_1 a0_2 t308 t309 _ A15.out).mono ?_); rintro e w29 ⟨rfl, hb⟩; refine ⟨_, rfl, ?_⟩; have n0_ := Aside0.mk (blk_below (g := gb299) (o := .cells #[.int .i64 a0_0, .int .i64 a0_1, .int .i64 a0_2] 23 (0, 0)) (by (with_reducible repeat (first | refine blk_drewN ?_ _ | refine blk_drew ?_ | refine blk_alloc ?_ _)); exact BK299.out) hb); have n1_ := Aside0.mk (blk_below (g := gb306) (o := .cells #[.int .i64 t302, .int .i64 t303, .int .i64 t304] 23 (0, 0)) (by (with_reducible repeat (first | refine blk_drewN ?_ _ | refine blk_drew ?_ | refine blk_alloc ?_ _)); exact BK306.out) hb); have n2_ := Aside0.mk (below_step (by repeat (first | (with_reducible first | exact HB.out | apply below_alloc | apply pw_below_drewN | apply below_drew1 | refine below_set ?_ GE299.out | refine below_set ?_ GE306.out) | exact HB.out)) hb); clear BK299; clear BK306; clear HB; have BK299 := n0_; have BK306 := n1_; have HB := n2_; clear n0_ n1_ n2_; (try clear hb); (try clear hb2); (try clear hk); (try clear hi); have hcz30_0 : w29.cell? ⟨gb306, 0, none⟩ = some (.int .i64 t302) := (blk_cell BK306.out 0).trans rfl; have hcz30_1 : w29.cell? ⟨gb306, 1, none⟩ = some (.int .i64 t303) := (blk_cell BK306.out 1).trans rfl; have hcz30_2 : w29.cell? ⟨gb306, 2, none⟩ = some (.int .i64 t304) := (blk_cell BK306.out 2).trans rfl; have hfz30_0 := blk_frozen BK306.out 0; have hfz30_1 := blk_frozen BK306.out 1; have hfz30_2 := blk_frozen BK306.out 2; have hcz31_0 : w29.cell? ⟨gb299, 0, none⟩ = some (.int .i64 a0_0) := (blk_cell BK299.out 0).trans rfl; have hcz31_1 : w29.cell? ⟨gb299, 1, none⟩ = some (.int .i64 a0_1) := (blk_cell BK299.out 1).trans rfl; have hcz31_2 : w29.cell? ⟨gb299, 2, none⟩ = some (.int .i64 a0_2) := (blk_cell BK299.out 2).trans rfl; have hfz31_0 := blk_frozen BK299.out 0; have hfz31_1 := blk_frozen BK299.out 1; have hfz31_2 := blk_frozen BK299.out 2) | (go_at_call 29; (with_reducible refine (date_Workday.calls kj2 a0_0 a0_1 a0_2 t310 _ A20.out).mono ?_); rintro e w32 ⟨rfl, hb⟩; have n0_ := Aside0.mk (blk_below (g := gb299) (o := .cells #[.int .i64 a0_0, .int .i64 a0_1, .int .i64 a0_2] 23 (0, 0)) (by (with_reducible repeat (first | refine blk_drewN ?_ _ | refine blk_drew ?_ | refine blk_alloc ?_ _)); exact BK299.out) hb); have n1_ := Aside0.mk (blk_below (g := gb306) (o := .cells #[.int .i64 t302, .int .i64 t303, .int .i64 t304] 23 (0, 0)) (by (with_reducible repeat (first | refine blk_drewN ?_ _ | refine blk_drew ?_ | refine blk_alloc ?_ _)); exact BK306.out) hb); have n2_ := Aside0.mk (below_step (by repeat (first | (with_reducible first | exact HB.out | apply below_alloc | apply pw_below_drewN | apply below_drew1 | refine below_set ?_ GE299.out | refine below_set ?_ GE306.out) | exact HB.out)) hb); clear BK299; clear BK306; clear HB; have BK299 := n0_; have BK306 := n1_; have HB := n2_; clear n0_ n1_ n2_; (try clear hb); (try clear hb2); (try clear hk); (try clear hi)))
                  go_ret
                  exact ⟨by first | rfl | (simp [errW_none, errW_some] <;> rfl) | (simp [*, errW_none, errW_some] <;> rfl), by repeat (first | (with_reducible first | exact HB.out | apply below_alloc | apply pw_below_drewN | apply below_drew1 | refine below_set ?_ GE299.out | refine below_set ?_ GE306.out) | exact HB.out)⟩
                · rw [if_neg c19] at H
                  have c19b0 : (t308 == 0) = false := beq_eq_false_iff_ne.mpr c19
                  have c19b1 : (t308 != 0) = true := bne_iff_ne.mpr c19
                  obtain rfl := Option.some.inj H
                  have hcz33_0 : wc.cell? ⟨gb299, 0, none⟩ = some (.int .i64 a0_0) := (blk_cell BK299.out 0).trans rfl
                  have hcz33_1 : wc.cell? ⟨gb299, 1, none⟩ = some (.int .i64 a0_1) := (blk_cell BK299.out 1).trans rfl
                  have hcz33_2 : wc.cell? ⟨gb299, 2, none⟩ = some (.int .i64 a0_2) := (blk_cell BK299.out 2).trans rfl
                  have hfz33_0 := blk_frozen BK299.out 0
                  have hfz33_1 := blk_frozen BK299.out 1
                  have hfz33_2 := blk_frozen BK299.out 2
                  go_wp2_with (first | ((with_reducible refine gate_callee (f := 30) rfl ?_); refine goesL_ (some 28) rfl rfl Try.func30 (by kernel_rfl) rfl #[.agg #[.int .i64 a0_0, .int .i64 a0_1, .int .i64 a0_2]] rfl (by (try simp only [List.map_toArray, List.map_cons, List.map_nil]); first | done | rfl | (simp only [List.length_drop, List.length_take]; rfl)) ?_; (with_reducible refine (date_Back.calls kj2 a0_0 a0_1 a0_2 t302 t303 t304 t305 _ A12.out).mono ?_); rintro e w34 ⟨rfl, hb⟩; refine ⟨_, rfl, ?_⟩; have n0_ := Aside0.mk (blk_below (g := gb299) (o := .cells #[.int .i64 a0_0, .int .i64 a0_1, .int .i64 a0_2] 23 (0, 0)) (by (with_reducible repeat (first | refine blk_drewN ?_ _ | refine blk_drew ?_ | refine blk_alloc ?_ _)); exact BK299.out) hb); have n1_ := Aside0.mk (below_step (by repeat (first | (with_reducible first | exact HB.out | apply below_alloc | apply pw_below_drewN | apply below_drew1 | refine below_set ?_ GE299.out) | exact HB.out)) hb); clear BK299; clear HB; have BK299 := n0_; have HB := n1_; clear n0_ n1_; (try clear hb); (try clear hb2); (try clear hk); (try clear hi)) | ((with_reducible refine gate_dst (N := 5) rfl ?_); refine box_event ?hg (N := 5) ?hd (cs := #[.int .i64 0, .int .i64 0, .int .i64 0]) (t := 23) ?hr ?_; (case hd => rfl); (case hg => rfl); (case hr => first | (go_simp; done) | (go_simp; rfl)); intro gb306 hg w35 hbox hb; have n0_ := Aside0.mk (blk_below (g := gb299) (o := .cells #[.int .i64 a0_0, .int .i64 a0_1, .int .i64 a0_2] 23 (0, 0)) (by (with_reducible repeat (first | refine blk_drewN ?_ _ | refine blk_drew ?_ | refine blk_alloc ?_ _)); exact BK299.out) hb); have n1_ := Aside0.mk (below_step (by repeat (first | (with_reducible first | exact HB.out | apply below_alloc | apply pw_below_drewN | apply below_drew1 | refine below_set ?_ GE299.out) | exact HB.out)) hb); have n2_ := Aside0.mk (hbox); have n3_ := Aside0.mk ((by rw [hg]; exact (below_size (by repeat (first | (with_reducible first | exact HB.out | apply below_alloc | apply pw_below_drewN | apply below_drew1 | refine below_set ?_ GE299.out) | exact HB.out))) : w.heap.size ≤ gb306)); have n4_ := Aside0.mk ((by rw [hg]; exact (below_size (by repeat (first | (with_reducible first | exact HB.out | apply below_alloc | apply pw_below_drewN | apply below_drew1 | refine below_set ?_ GE299.out) | exact HB.out))) : w.heap.size ≤ gb306)); have n5_ := Aside0.mk ((by rw [hg]; exact Nat.ne_of_lt (blk_lt (g := gb299) (o := .cells #[.int .i64 a0_0, .int .i64 a0_1, .int .i64 a0_2] 23 (0, 0)) (by (with_reducible repeat (first | refine blk_drewN ?_ _ | refine blk_drew ?_ | refine blk_alloc ?_ _)); exact BK299.out)) : gb299 ≠ gb306)); have n6_ := Aside0.mk ((by rw [hg]; exact Nat.ne_of_gt (blk_lt (g := gb299) (o := .cells #[.int .i64 a0_0, .int .i64 a0_1, .int .i64 a0_2] 23 (0, 0)) (by (with_reducible repeat (first | refine blk_drewN ?_ _ | refine blk_drew ?_ | refine blk_alloc ?_ _)); exact BK299.out)) : gb306 ≠ gb299)); clear BK299; clear HB; have BK299 := n0_; have HB := n1_; have BK306 := n2_; have GW306 := n3_; have GE306 := n4_; have NB299_306 := n5_; have NB306_299 := n6_; clear n0_ n1_ n2_ n3_ n4_ n5_ n6_; clear hb hbox hg; have hnb36 := NB306_299.out; have hnc36 := NB299_306.out; have hcz37_0 : w35.cell? ⟨gb306, 0, none⟩ = some (.int .i64 0) := (blk_cell BK306.out 0).trans rfl; have hcz37_1 : w35.cell? ⟨gb306, 1, none⟩ = some (.int .i64 0) := (blk_cell BK306.out 1).trans rfl; have hcz37_2 : w35.cell? ⟨gb306, 2, none⟩ = some (.int .i64 0) := (blk_cell BK306.out 2).trans rfl; have hfz37_0 := blk_frozen BK306.out 0; have hfz37_1 := blk_frozen BK306.out 1; have hfz37_2 := blk_frozen BK306.out 2; have hcz38_0 : w35.cell? ⟨gb299, 0, none⟩ = some (.int .i64 a0_0) := (blk_cell BK299.out 0).trans rfl; have hcz38_1 : w35.cell? ⟨gb299, 1, none⟩ = some (.int .i64 a0_1) := (blk_cell BK299.out 1).trans rfl; have hcz38_2 : w35.cell? ⟨gb299, 2, none⟩ = some (.int .i64 a0_2) := (blk_cell BK299.out 2).trans rfl; have hfz38_0 := blk_frozen BK299.out 0; have hfz38_1 := blk_frozen BK299.out 1; have hfz38_2 := blk_frozen BK299.out 2) | ((with_reducible refine gate_callee (f := 13) rfl ?_); refine goesL_ (some 32) rfl rfl Try.func13 (by kernel_rfl) rfl #[.agg #[.int .i64 a0_0, .int .i64 a0_1, .int .i64 a0_2]] rfl (by (try simp only [List.map_toArray, List.map_cons, List.map_nil]); first | done | rfl | (simp only [List.length_drop, List.length_take]; rfl)) ?_; (with_reducible refine (stipendref03_Number.calls kj2 a0_0 a0_1 a0_2 t307 _ A13.out).mono ?_); rintro e w39 ⟨rfl, hb⟩; refine ⟨_, rfl, ?_⟩; have n0_ := Aside0.mk (blk_below (g := gb299) (o := .cells #[.int .i64 a0_0, .int .i64 a0_1, .int .i64 a0_2] 23 (0, 0)) (by (with_reducible repeat (first | refine blk_drewN ?_ _ | refine blk_drew ?_ | refine blk_alloc ?_ _)); refine blk_far ?_ NB299_306.out _; (with_reducible repeat (first | refine blk_drewN ?_ _ | refine blk_drew ?_ | refine blk_alloc ?_ _)); refine blk_far ?_ NB299_306.out _; (with_reducible repeat (first | refine blk_drewN ?_ _ | refine blk_drew ?_ | refine blk_alloc ?_ _)); refine blk_far ?_ NB299_306.out _; (with_reducible repeat (first | refine blk_drewN ?_ _ | refine blk_drew ?_ | refine blk_alloc ?_ _)); exact BK299.out) hb); have n1_ := Aside0.mk (blk_below (g := gb306) (o := .cells #[.int .i64 t302, .int .i64 t303, .int .i64 t304] 23 (0, 0)) (by (with_reducible repeat (first | refine blk_drewN ?_ _ | refine blk_drew ?_ | refine blk_alloc ?_ _)); refine blk_put (cs := #[.int .i64 t302, .int .i64 t303, .int .i64 0]) ?_ 2 _ rfl; (with_reducible repeat (first | refine blk_drewN ?_ _ | refine blk_drew ?_ | refine blk_alloc ?_ _)); refine blk_put (cs := #[.int .i64 t302, .int .i64 0, .int .i64 0]) ?_ 1 _ rfl; (with_reducible repeat (first | refine blk_drewN ?_ _ | refine blk_drew ?_ | refine blk_alloc ?_ _)); refine blk_put (cs := #[.int .i64 0, .int .i64 0, .int .i64 0]) ?_ 0 _ rfl; (with_reducible repeat (first | refine blk_drewN ?_ _ | refine blk_drew ?_ | refine blk_alloc ?_ _)); exact BK306.out) hb); have n2_ := Aside0.mk (below_step (by repeat (first | (with_reducible first | exact HB.out | apply below_alloc | apply pw_below_drewN | apply below_drew1 | refine below_set ?_ GE299.out | refine below_set ?_ GE306.out) | exact HB.out)) hb); clear BK299; clear BK306; clear HB; have BK299 := n0_; have BK306 := n1_; have HB := n2_; clear n0_ n1_ n2_; (try clear hb); (try clear hb2); (try clear hk); (try clear hi); have hcz40_0 : w39.cell? ⟨gb299, 0, none⟩ = some (.int .i64 a0_0) := (blk_cell BK299.out 0).trans rfl; have hcz40_1 : w39.cell? ⟨gb299, 1, none⟩ = some (.int .i64 a0_1) := (blk_cell BK299.out 1).trans rfl; have hcz40_2 : w39.cell? ⟨gb299, 2, none⟩ = some (.int .i64 a0_2) := (blk_cell BK299.out 2).trans rfl; have hfz40_0 := blk_frozen BK299.out 0; have hfz40_1 := blk_frozen BK299.out 1; have hfz40_2 := blk_frozen BK299.out 2) | ((with_reducible refine gate_callee (f := 31) rfl ?_); refine goesL_ (some 38) rfl rfl Try.func31 (by kernel_rfl) rfl #[.agg #[.int .i64 a0_0, .int .i64 a0_1, .int .i64 a0_2], .agg #[.int .i64 a0_0, .int .i64 a0_1, .int .i64 a0_2]] rfl (by (try simp only [List.map_toArray, List.map_cons, List.map_nil]); first | done | rfl | (simp only [List.length_drop, List.length_take]; rfl)) ?_; (with_reducible refine (date_Workdays.calls kj2 a0_0 a0_1 a0_2 a0_0 a0_1 a0_2 t308 t309 _ A15.out).mono ?_); rintro e w41 ⟨rfl, hb⟩; refine ⟨_, rfl, ?_⟩; have n0_ := Aside0.mk (blk_below (g := gb299) (o := .cells #[.int .i64 a0_0, .int .i64 a0_1, .int .i64 a0_2] 23 (0, 0)) (by (with_reducible repeat (first | refine blk_drewN ?_ _ | refine blk_drew ?_ | refine blk_alloc ?_ _)); exact BK299.out) hb); have n1_ := Aside0.mk (blk_below (g := gb306) (o := .cells #[.int .i64 t302, .int .i64 t303, .int .i64 t304] 23 (0, 0)) (by (with_reducible repeat (first | refine blk_drewN ?_ _ | refine blk_drew ?_ | refine blk_alloc ?_ _)); exact BK306.out) hb); have n2_ := Aside0.mk (below_step (by repeat (first | (with_reducible first | exact HB.out | apply below_alloc | apply pw_below_drewN | apply below_drew1 | refine below_set ?_ GE299.out | refine below_set ?_ GE306.out) | exact HB.out)) hb); clear BK299; clear BK306; clear HB; have BK299 := n0_; have BK306 := n1_; have HB := n2_; clear n0_ n1_ n2_; (try clear hb); (try clear hb2); (try clear hk); (try clear hi); have hcz42_0 : w41.cell? ⟨gb306, 0, none⟩ = some (.int .i64 t302) := (blk_cell BK306.out 0).trans rfl; have hcz42_1 : w41.cell? ⟨gb306, 1, none⟩ = some (.int .i64 t303) := (blk_cell BK306.out 1).trans rfl; have hcz42_2 : w41.cell? ⟨gb306, 2, none⟩ = some (.int .i64 t304) := (blk_cell BK306.out 2).trans rfl; have hfz42_0 := blk_frozen BK306.out 0; have hfz42_1 := blk_frozen BK306.out 1; have hfz42_2 := blk_frozen BK306.out 2))
                  go_ret
                  exact ⟨by first | rfl | (simp [errW_none, errW_some] <;> rfl) | (simp [*, errW_none, errW_some] <;> rfl), by repeat (first | (with_reducible first | exact HB.out | apply below_alloc | apply pw_below_drewN | apply below_drew1 | refine below_set ?_ GE299.out | refine below_set ?_ GE306.out) | exact HB.out)⟩
              · rw [if_neg c18] at H
                have c18b0 : (t309 == 30) = false := beq_eq_false_iff_ne.mpr c18
                have c18b1 : (t309 != 30) = true := bne_iff_ne.mpr c18
                obtain rfl := Option.some.inj H
                have hcz43_0 : wc.cell? ⟨gb299, 0, none⟩ = some (.int .i64 a0_0) := (blk_cell BK299.out 0).trans rfl
                have hcz43_1 : wc.cell? ⟨gb299, 1, none⟩ = some (.int .i64 a0_1) := (blk_cell BK299.out 1).trans rfl
                have hcz43_2 : wc.cell? ⟨gb299, 2, none⟩ = some (.int .i64 a0_2) := (blk_cell BK299.out 2).trans rfl
                have hfz43_0 := blk_frozen BK299.out 0
                have hfz43_1 := blk_frozen BK299.out 1
                have hfz43_2 := blk_frozen BK299.out 2
                go_wp2_with (first | ((with_reducible refine gate_callee (f := 30) rfl ?_); refine goesL_ (some 28) rfl rfl Try.func30 (by kernel_rfl) rfl #[.agg #[.int .i64 a0_0, .int .i64 a0_1, .int .i64 a0_2]] rfl (by (try simp only [List.map_toArray, List.map_cons, List.map_nil]); first | done | rfl | (simp only [List.length_drop, List.length_take]; rfl)) ?_; (with_reducible refine (date_Back.calls kj2 a0_0 a0_1 a0_2 t302 t303 t304 t305 _ A12.out).mono ?_); rintro e w44 ⟨rfl, hb⟩; refine ⟨_, rfl, ?_⟩; have n0_ := Aside0.mk (blk_below (g := gb299) (o := .cells #[.int .i64 a0_0, .int .i64 a0_1, .int .i64 a0_2] 23 (0, 0)) (by (with_reducible repeat (first | refine blk_drewN ?_ _ | refine blk_drew ?_ | refine blk_alloc ?_ _)); exact BK299.out) hb); have n1_ := Aside0.mk (below_step (by repeat (first | (with_reducible first | exact HB.out | apply below_alloc | apply pw_below_drewN | apply below_drew1 | refine below_set ?_ GE299.out) | exact HB.out)) hb); clear BK299; clear HB; have BK299 := n0_; have HB := n1_; clear n0_ n1_; (try clear hb); (try clear hb2); (try clear hk); (try clear hi)) | ((with_reducible refine gate_dst (N := 5) rfl ?_); refine box_event ?hg (N := 5) ?hd (cs := #[.int .i64 0, .int .i64 0, .int .i64 0]) (t := 23) ?hr ?_; (case hd => rfl); (case hg => rfl); (case hr => first | (go_simp; done) | (go_simp; rfl)); intro gb306 hg w45 hbox hb; have n0_ := Aside0.mk (blk_below (g := gb299) (o := .cells #[.int .i64 a0_0, .int .i64 a0_1, .int .i64 a0_2] 23 (0, 0)) (by (with_reducible repeat (first | refine blk_drewN ?_ _ | refine blk_drew ?_ | refine blk_alloc ?_ _)); exact BK299.out) hb); have n1_ := Aside0.mk (below_step (by repeat (first | (with_reducible first | exact HB.out | apply below_alloc | apply pw_below_drewN | apply below_drew1 | refine below_set ?_ GE299.out) | exact HB.out)) hb); have n2_ := Aside0.mk (hbox); have n3_ := Aside0.mk ((by rw [hg]; exact (below_size (by repeat (first | (with_reducible first | exact HB.out | apply below_alloc | apply pw_below_drewN | apply below_drew1 | refine below_set ?_ GE299.out) | exact HB.out))) : w.heap.size ≤ gb306)); have n4_ := Aside0.mk ((by rw [hg]; exact (below_size (by repeat (first | (with_reducible first | exact HB.out | apply below_alloc | apply pw_below_drewN | apply below_drew1 | refine below_set ?_ GE299.out) | exact HB.out))) : w.heap.size ≤ gb306)); have n5_ := Aside0.mk ((by rw [hg]; exact Nat.ne_of_lt (blk_lt (g := gb299) (o := .cells #[.int .i64 a0_0, .int .i64 a0_1, .int .i64 a0_2] 23 (0, 0)) (by (with_reducible repeat (first | refine blk_drewN ?_ _ | refine blk_drew ?_ | refine blk_alloc ?_ _)); exact BK299.out)) : gb299 ≠ gb306)); have n6_ := Aside0.mk ((by rw [hg]; exact Nat.ne_of_gt (blk_lt (g := gb299) (o := .cells #[.int .i64 a0_0, .int .i64 a0_1, .int .i64 a0_2] 23 (0, 0)) (by (with_reducible repeat (first | refine blk_drewN ?_ _ | refine blk_drew ?_ | refine blk_alloc ?_ _)); exact BK299.out)) : gb306 ≠ gb299)); clear BK299; clear HB; have BK299 := n0_; have HB := n1_; have BK306 := n2_; have GW306 := n3_; have GE306 := n4_; have NB299_306 := n5_; have NB306_299 := n6_; clear n0_ n1_ n2_ n3_ n4_ n5_ n6_; clear hb hbox hg; have hnb46 := NB306_299.out; have hnc46 := NB299_306.out; have hcz47_0 : w45.cell? ⟨gb306, 0, none⟩ = some (.int .i64 0) := (blk_cell BK306.out 0).trans rfl; have hcz47_1 : w45.cell? ⟨gb306, 1, none⟩ = some (.int .i64 0) := (blk_cell BK306.out 1).trans rfl; have hcz47_2 : w45.cell? ⟨gb306, 2, none⟩ = some (.int .i64 0) := (blk_cell BK306.out 2).trans rfl; have hfz47_0 := blk_frozen BK306.out 0; have hfz47_1 := blk_frozen BK306.out 1; have hfz47_2 := blk_frozen BK306.out 2; have hcz48_0 : w45.cell? ⟨gb299, 0, none⟩ = some (.int .i64 a0_0) := (blk_cell BK299.out 0).trans rfl; have hcz48_1 : w45.cell? ⟨gb299, 1, none⟩ = some (.int .i64 a0_1) := (blk_cell BK299.out 1).trans rfl; have hcz48_2 : w45.cell? ⟨gb299, 2, none⟩ = some (.int .i64 a0_2) := (blk_cell BK299.out 2).trans rfl; have hfz48_0 := blk_frozen BK299.out 0; have hfz48_1 := blk_frozen BK299.out 1; have hfz48_2 := blk_frozen BK299.out 2) | ((with_reducible refine gate_callee (f := 13) rfl ?_); refine goesL_ (some 32) rfl rfl Try.func13 (by kernel_rfl) rfl #[.agg #[.int .i64 a0_0, .int .i64 a0_1, .int .i64 a0_2]] rfl (by (try simp only [List.map_toArray, List.map_cons, List.map_nil]); first | done | rfl | (simp only [List.length_drop, List.length_take]; rfl)) ?_; (with_reducible refine (stipendref03_Number.calls kj2 a0_0 a0_1 a0_2 t307 _ A13.out).mono ?_); rintro e w49 ⟨rfl, hb⟩; refine ⟨_, rfl, ?_⟩; have n0_ := Aside0.mk (blk_below (g := gb299) (o := .cells #[.int .i64 a0_0, .int .i64 a0_1, .int .i64 a0_2] 23 (0, 0)) (by (with_reducible repeat (first | refine blk_drewN ?_ _ | refine blk_drew ?_ | refine blk_alloc ?_ _)); refine blk_far ?_ NB299_306.out _; (with_reducible repeat (first | refine blk_drewN ?_ _ | refine blk_drew ?_ | refine blk_alloc ?_ _)); refine blk_far ?_ NB299_306.out _; (with_reducible repeat (first | refine blk_drewN ?_ _ | refine blk_drew ?_ | refine blk_alloc ?_ _)); refine blk_far ?_ NB299_306.out _; (with_reducible repeat (first | refine blk_drewN ?_ _ | refine blk_drew ?_ | refine blk_alloc ?_ _)); exact BK299.out) hb); have n1_ := Aside0.mk (blk_below (g := gb306) (o := .cells #[.int .i64 t302, .int .i64 t303, .int .i64 t304] 23 (0, 0)) (by (with_reducible repeat (first | refine blk_drewN ?_ _ | refine blk_drew ?_ | refine blk_alloc ?_ _)); refine blk_put (cs := #[.int .i64 t302, .int .i64 t303, .int .i64 0]) ?_ 2 _ rfl; (with_reducible repeat (first | refine blk_drewN ?_ _ | refine blk_drew ?_ | refine blk_alloc ?_ _)); refine blk_put (cs := #[.int .i64 t302, .int .i64 0, .int .i64 0]) ?_ 1 _ rfl; (with_reducible repeat (first | refine blk_drewN ?_ _ | refine blk_drew ?_ | refine blk_alloc ?_ _)); refine blk_put (cs := #[.int .i64 0, .int .i64 0, .int .i64 0]) ?_ 0 _ rfl; (with_reducible repeat (first | refine blk_drewN ?_ _ | refine blk_drew ?_ | refine blk_alloc ?_ _)); exact BK306.out) hb); have n2_ := Aside0.mk (below_step (by repeat (first | (with_reducible first | exact HB.out | apply below_alloc | apply pw_below_drewN | apply below_drew1 | refine below_set ?_ GE299.out | refine below_set ?_ GE306.out) | exact HB.out)) hb); clear BK299; clear BK306; clear HB; have BK299 := n0_; have BK306 := n1_; have HB := n2_; clear n0_ n1_ n2_; (try clear hb); (try clear hb2); (try clear hk); (try clear hi); have hcz50_0 : w49.cell? ⟨gb299, 0, none⟩ = some (.int .i64 a0_0) := (blk_cell BK299.out 0).trans rfl; have hcz50_1 : w49.cell? ⟨gb299, 1, none⟩ = some (.int .i64 a0_1) := (blk_cell BK299.out 1).trans rfl; have hcz50_2 : w49.cell? ⟨gb299, 2, none⟩ = some (.int .i64 a0_2) := (blk_cell BK299.out 2).trans rfl; have hfz50_0 := blk_frozen BK299.out 0; have hfz50_1 := blk_frozen BK299.out 1; have hfz50_2 := blk_frozen BK299.out 2) | ((with_reducible refine gate_callee (f := 31) rfl ?_); refine goesL_ (some 38) rfl rfl Try.func31 (by kernel_rfl) rfl #[.agg #[.int .i64 a0_0, .int .i64 a0_1, .int .i64 a0_2], .agg #[.int .i64 a0_0, .int .i64 a0_1, .int .i64 a0_2]] rfl (by (try simp only [List.map_toArray, List.map_cons, List.map_nil]); first | done | rfl | (simp only [List.length_drop, List.length_take]; rfl)) ?_; (with_reducible refine (date_Workdays.calls kj2 a0_0 a0_1 a0_2 a0_0 a0_1 a0_2 t308 t309 _ A15.out).mono ?_); rintro e w51 ⟨rfl, hb⟩; refine ⟨_, rfl, ?_⟩; have n0_ := Aside0.mk (blk_below (g := gb299) (o := .cells #[.int .i64 a0_0, .int .i64 a0_1, .int .i64 a0_2] 23 (0, 0)) (by (with_reducible repeat (first | refine blk_drewN ?_ _ | refine blk_drew ?_ | refine blk_alloc ?_ _)); exact BK299.out) hb); have n1_ := Aside0.mk (blk_below (g := gb306) (o := .cells #[.int .i64 t302, .int .i64 t303, .int .i64 t304] 23 (0, 0)) (by (with_reducible repeat (first | refine blk_drewN ?_ _ | refine blk_drew ?_ | refine blk_alloc ?_ _)); exact BK306.out) hb); have n2_ := Aside0.mk (below_step (by repeat (first | (with_reducible first | exact HB.out | apply below_alloc | apply pw_below_drewN | apply below_drew1 | refine below_set ?_ GE299.out | refine below_set ?_ GE306.out) | exact HB.out)) hb); clear BK299; clear BK306; clear HB; have BK299 := n0_; have BK306 := n1_; have HB := n2_; clear n0_ n1_ n2_; (try clear hb); (try clear hb2); (try clear hk); (try clear hi); have hcz52_0 : w51.cell? ⟨gb306, 0, none⟩ = some (.int .i64 t302) := (blk_cell BK306.out 0).trans rfl; have hcz52_1 : w51.cell? ⟨gb306, 1, none⟩ = some (.int .i64 t303) := (blk_cell BK306.out 1).trans rfl; have hcz52_2 : w51.cell? ⟨gb306, 2, none⟩ = some (.int .i64 t304) := (blk_cell BK306.out 2).trans rfl; have hfz52_0 := blk_frozen BK306.out 0; have hfz52_1 := blk_frozen BK306.out 1; have hfz52_2 := blk_frozen BK306.out 2))
                go_ret
                exact ⟨by first | rfl | (simp [errW_none, errW_some] <;> rfl) | (simp [*, errW_none, errW_some] <;> rfl), by repeat (first | (with_reducible first | exact HB.out | apply below_alloc | apply pw_below_drewN | apply below_drew1 | refine below_set ?_ GE299.out | refine below_set ?_ GE306.out) | exact HB.out)⟩
            · rw [if_neg c17] at H
              have c17b0 : (t302 == 0 && (t303 == 0 && (t304 == 0))) = false := by simpa using c17
              (try (have c17b1 : decide (t302 = 0 && (t303 == 0 && (t304 == 0))) = false := by simpa using c17))
              (try (have c17b2 : (t302 == 0 && (t303 == 0 && (t304 == 0))) = false := by simpa using c17))
              (try (have c17b3 : ¬ (t302 = 0 && (t303 == 0 && (t304 == 0))) := by simpa using c17))
              clear c17
              obtain rfl := Option.some.inj H
              have hcz53_0 : wc.cell? ⟨gb299, 0, none⟩ = some (.int .i64 a0_0) := (blk_cell BK299.out 0).trans rfl
              have hcz53_1 : wc.cell? ⟨gb299, 1, none⟩ = some (.int .i64 a0_1) := (blk_cell BK299.out 1).trans rfl
              have hcz53_2 : wc.cell? ⟨gb299, 2, none⟩ = some (.int .i64 a0_2) := (blk_cell BK299.out 2).trans rfl
              have hfz53_0 := blk_frozen BK299.out 0
              have hfz53_1 := blk_frozen BK299.out 1
              have hfz53_2 := blk_frozen BK299.out 2
              go_wp2_with (first | ((with_reducible refine gate_callee (f := 30) rfl ?_); refine goesL_ (some 28) rfl rfl Try.func30 (by kernel_rfl) rfl #[.agg #[.int .i64 a0_0, .int .i64 a0_1, .int .i64 a0_2]] rfl (by (try simp only [List.map_toArray, List.map_cons, List.map_nil]); first | done | rfl | (simp only [List.length_drop, List.length_take]; rfl)) ?_; (with_reducible refine (date_Back.calls kj2 a0_0 a0_1 a0_2 t302 t303 t304 t305 _ A12.out).mono ?_); rintro e w54 ⟨rfl, hb⟩; refine ⟨_, rfl, ?_⟩; have n0_ := Aside0.mk (blk_below (g := gb299) (o := .cells #[.int .i64 a0_0, .int .i64 a0_1, .int .i64 a0_2] 23 (0, 0)) (by (with_reducible repeat (first | refine blk_drewN ?_ _ | refine blk_drew ?_ | refine blk_alloc ?_ _)); exact BK299.out) hb); have n1_ := Aside0.mk (below_step (by repeat (first | (with_reducible first | exact HB.out | apply below_alloc | apply pw_below_drewN | apply below_drew1 | refine below_set ?_ GE299.out) | exact HB.out)) hb); clear BK299; clear HB; have BK299 := n0_; have HB := n1_; clear n0_ n1_; (try clear hb); (try clear hb2); (try clear hk); (try clear hi)) | ((with_reducible refine gate_dst (N := 5) rfl ?_); refine box_event ?hg (N := 5) ?hd (cs := #[.int .i64 0, .int .i64 0, .int .i64 0]) (t := 23) ?hr ?_; (case hd => rfl); (case hg => rfl); (case hr => first | (go_simp; done) | (go_simp; rfl)); intro gb306 hg w55 hbox hb; have n0_ := Aside0.mk (blk_below (g := gb299) (o := .cells #[.int .i64 a0_0, .int .i64 a0_1, .int .i64 a0_2] 23 (0, 0)) (by (with_reducible repeat (first | refine blk_drewN ?_ _ | refine blk_drew ?_ | refine blk_alloc ?_ _)); exact BK299.out) hb); have n1_ := Aside0.mk (below_step (by repeat (first | (with_reducible first | exact HB.out | apply below_alloc | apply pw_below_drewN | apply below_drew1 | refine below_set ?_ GE299.out) | exact HB.out)) hb); have n2_ := Aside0.mk (hbox); have n3_ := Aside0.mk ((by rw [hg]; exact (below_size (by repeat (first | (with_reducible first | exact HB.out | apply below_alloc | apply pw_below_drewN | apply below_drew1 | refine below_set ?_ GE299.out) | exact HB.out))) : w.heap.size ≤ gb306)); have n4_ := Aside0.mk ((by rw [hg]; exact (below_size (by repeat (first | (with_reducible first | exact HB.out | apply below_alloc | apply pw_below_drewN | apply below_drew1 | refine below_set ?_ GE299.out) | exact HB.out))) : w.heap.size ≤ gb306)); have n5_ := Aside0.mk ((by rw [hg]; exact Nat.ne_of_lt (blk_lt (g := gb299) (o := .cells #[.int .i64 a0_0, .int .i64 a0_1, .int .i64 a0_2] 23 (0, 0)) (by (with_reducible repeat (first | refine blk_drewN ?_ _ | refine blk_drew ?_ | refine blk_alloc ?_ _)); exact BK299.out)) : gb299 ≠ gb306)); have n6_ := Aside0.mk ((by rw [hg]; exact Nat.ne_of_gt (blk_lt (g := gb299) (o := .cells #[.int .i64 a0_0, .int .i64 a0_1, .int .i64 a0_2] 23 (0, 0)) (by (with_reducible repeat (first | refine blk_drewN ?_ _ | refine blk_drew ?_ | refine blk_alloc ?_ _)); exact BK299.out)) : gb306 ≠ gb299)); clear BK299; clear HB; have BK299 := n0_; have HB := n1_; have BK306 := n2_; have GW306 := n3_; have GE306 := n4_; have NB299_306 := n5_; have NB306_299 := n6_; clear n0_ n1_ n2_ n3_ n4_ n5_ n6_; clear hb hbox hg; have hnb56 := NB306_299.out; have hnc56 := NB299_306.out; have hcz57_0 : w55.cell? ⟨gb306, 0, none⟩ = some (.int .i64 0) := (blk_cell BK306.out 0).trans rfl; have hcz57_1 : w55.cell? ⟨gb306, 1, none⟩ = some (.int .i64 0) := (blk_cell BK306.out 1).trans rfl; have hcz57_2 : w55.cell? ⟨gb306, 2, none⟩ = some (.int .i64 0) := (blk_cell BK306.out 2).trans rfl; have hfz57_0 := blk_frozen BK306.out 0; have hfz57_1 := blk_frozen BK306.out 1; have hfz57_2 := blk_frozen BK306.out 2; have hcz58_0 : w55.cell? ⟨gb299, 0, none⟩ = some (.int .i64 a0_0) := (blk_cell BK299.out 0).trans rfl; have hcz58_1 : w55.cell? ⟨gb299, 1, none⟩ = some (.int .i64 a0_1) := (blk_cell BK299.out 1).trans rfl; have hcz58_2 : w55.cell? ⟨gb299, 2, none⟩ = some (.int .i64 a0_2) := (blk_cell BK299.out 2).trans rfl; have hfz58_0 := blk_frozen BK299.out 0; have hfz58_1 := blk_frozen BK299.out 1; have hfz58_2 := blk_frozen BK299.out 2) | ((with_reducible refine gate_callee (f := 13) rfl ?_); refine goesL_ (some 32) rfl rfl Try.func13 (by kernel_rfl) rfl #[.agg #[.int .i64 a0_0, .int .i64 a0_1, .int .i64 a0_2]] rfl (by (try simp only [List.map_toArray, List.map_cons, List.map_nil]); first | done | rfl | (simp only [List.length_drop, List.length_take]; rfl)) ?_; (with_reducible refine (stipendref03_Number.calls kj2 a0_0 a0_1 a0_2 t307 _ A13.out).mono ?_); rintro e w59 ⟨rfl, hb⟩; refine ⟨_, rfl, ?_⟩; have n0_ := Aside0.mk (blk_below (g := gb299) (o := .cells #[.int .i64 a0_0, .int .i64 a0_1, .int .i64 a0_2] 23 (0, 0)) (by (with_reducible repeat (first | refine blk_drewN ?_ _ | refine blk_drew ?_ | refine blk_alloc ?_ _)); refine blk_far ?_ NB299_306.out _; (with_reducible repeat (first | refine blk_drewN ?_ _ | refine blk_drew ?_ | refine blk_alloc ?_ _)); refine blk_far ?_ NB299_306.out _; (with_reducible repeat (first | refine blk_drewN ?_ _ | refine blk_drew ?_ | refine blk_alloc ?_ _)); refine blk_far ?_ NB299_306.out _; (with_reducible repeat (first | refine blk_drewN ?_ _ | refine blk_drew ?_ | refine blk_alloc ?_ _)); exact BK299.out) hb); have n1_ := Aside0.mk (blk_below (g := gb306) (o := .cells #[.int .i64 t302, .int .i64 t303, .int .i64 t304] 23 (0, 0)) (by (with_reducible repeat (first | refine blk_drewN ?_ _ | refine blk_drew ?_ | refine blk_alloc ?_ _)); refine blk_put (cs := #[.int .i64 t302, .int .i64 t303, .int .i64 0]) ?_ 2 _ rfl; (with_reducible repeat (first | refine blk_drewN ?_ _ | refine blk_drew ?_ | refine blk_alloc ?_ _)); refine blk_put (cs := #[.int .i64 t302, .int .i64 0, .int .i64 0]) ?_ 1 _ rfl; (with_reducible repeat (first | refine blk_drewN ?_ _ | refine blk_drew ?_ | refine blk_alloc ?_ _)); refine blk_put (cs := #[.int .i64 0, .int .i64 0, .int .i64 0]) ?_ 0 _ rfl; (with_reducible repeat (first | refine blk_drewN ?_ _ | refine blk_drew ?_ | refine blk_alloc ?_ _)); exact BK306.out) hb); have n2_ := Aside0.mk (below_step (by repeat (first | (with_reducible first | exact HB.out | apply below_alloc | apply pw_below_drewN | apply below_drew1 | refine below_set ?_ GE299.out | refine below_set ?_ GE306.out) | exact HB.out)) hb); clear BK299; clear BK306; clear HB; have BK299 := n0_; have BK306 := n1_; have HB := n2_; clear n0_ n1_ n2_; (try clear hb); (try clear hb2); (try clear hk); (try clear hi); have hcz60_0 : w59.cell? ⟨gb299, 0, none⟩ = some (.int .i64 a0_0) := (blk_cell BK299.out 0).trans rfl; have hcz60_1 : w59.cell? ⟨gb299, 1, none⟩ = some (.int .i64 a0_1) := (blk_cell BK299.out 1).trans rfl; have hcz60_2 : w59.cell? ⟨gb299, 2, none⟩ = some (.int .i64 a0_2) := (blk_cell BK299.out 2).trans rfl; have hfz60_0 := blk_frozen BK299.out 0; have hfz60_1 := blk_frozen BK299.out 1; have hfz60_2 := blk_frozen BK299.out 2) | ((with_reducible refine gate_callee (f := 31) rfl ?_); refine goesL_ (some 38) rfl rfl Try.func31 (by kernel_rfl) rfl #[.agg #[.int .i64 a0_0, .int .i64 a0_1, .int .i64 a0_2], .agg #[.int .i64 a0_0, .int .i64 a0_1, .int .i64 a0_2]] rfl (by (try simp only [List.map_toArray, List.map_cons, List.map_nil]); first | done | rfl | (simp only [List.length_drop, List.length_take]; rfl)) ?_; (with_reducible refine (date_Workdays.calls kj2 a0_0 a0_1 a0_2 a0_0 a0_1 a0_2 t308 t309 _ A15.out).mono ?_); rintro e w61 ⟨rfl, hb⟩; refine ⟨_, rfl, ?_⟩; have n0_ := Aside0.mk (blk_below (g := gb299) (o := .cells #[.int .i64 a0_0, .int .i64 a0_1, .int .i64 a0_2] 23 (0, 0)) (by (with_reducible repeat (first | refine blk_drewN ?_ _ | refine blk_drew ?_ | refine blk_alloc ?_ _)); exact BK299.out) hb); have n1_ := Aside0.mk (blk_below (g := gb306) (o := .cells #[.int .i64 t302, .int .i64 t303, .int .i64 t304] 23 (0, 0)) (by (with_reducible repeat (first | refine blk_drewN ?_ _ | refine blk_drew ?_ | refine blk_alloc ?_ _)); exact BK306.out) hb); have n2_ := Aside0.mk (below_step (by repeat (first | (with_reducible first | exact HB.out | apply below_alloc | apply pw_below_drewN | apply below_drew1 | refine below_set ?_ GE299.out | refine below_set ?_ GE306.out) | exact HB.out)) hb); clear BK299; clear BK306; clear HB; have BK299 := n0_; have BK306 := n1_; have HB := n2_; clear n0_ n1_ n2_; (try clear hb); (try clear hb2); (try clear hk); (try clear hi); have hcz62_0 : w61.cell? ⟨gb306, 0, none⟩ = some (.int .i64 t302) := (blk_cell BK306.out 0).trans rfl; have hcz62_1 : w61.cell? ⟨gb306, 1, none⟩ = some (.int .i64 t303) := (blk_cell BK306.out 1).trans rfl; have hcz62_2 : w61.cell? ⟨gb306, 2, none⟩ = some (.int .i64 t304) := (blk_cell BK306.out 2).trans rfl; have hfz62_0 := blk_frozen BK306.out 0; have hfz62_1 := blk_frozen BK306.out 1; have hfz62_2 := blk_frozen BK306.out 2))
              go_ret
              exact ⟨by first | rfl | (simp [errW_none, errW_some] <;> rfl) | (simp [*, errW_none, errW_some] <;> rfl), by repeat (first | (with_reducible first | exact HB.out | apply below_alloc | apply pw_below_drewN | apply below_drew1 | refine below_set ?_ GE299.out | refine below_set ?_ GE306.out) | exact HB.out)⟩
          · rw [if_neg c16] at H
            have c16b0 : (t305 == 30) = false := beq_eq_false_iff_ne.mpr c16
            have c16b1 : (t305 != 30) = true := bne_iff_ne.mpr c16
            obtain rfl := Option.some.inj H
            have hcz63_0 : wc.cell? ⟨gb299, 0, none⟩ = some (.int .i64 a0_0) := (blk_cell BK299.out 0).trans rfl
            have hcz63_1 : wc.cell? ⟨gb299, 1, none⟩ = some (.int .i64 a0_1) := (blk_cell BK299.out 1).trans rfl
            have hcz63_2 : wc.cell? ⟨gb299, 2, none⟩ = some (.int .i64 a0_2) := (blk_cell BK299.out 2).trans rfl
            have hfz63_0 := blk_frozen BK299.out 0
            have hfz63_1 := blk_frozen BK299.out 1
            have hfz63_2 := blk_frozen BK299.out 2
            go_wp2_with (first | ((with_reducible refine gate_callee (f := 30) rfl ?_); refine goesL_ (some 28) rfl rfl Try.func30 (by kernel_rfl) rfl #[.agg #[.int .i64 a0_0, .int .i64 a0_1, .int .i64 a0_2]] rfl (by (try simp only [List.map_toArray, List.map_cons, List.map_nil]); first | done | rfl | (simp only [List.length_drop, List.length_take]; rfl)) ?_; (with_reducible refine (date_Back.calls kj2 a0_0 a0_1 a0_2 t302 t303 t304 t305 _ A12.out).mono ?_); rintro e w64 ⟨rfl, hb⟩; refine ⟨_, rfl, ?_⟩; have n0_ := Aside0.mk (blk_below (g := gb299) (o := .cells #[.int .i64 a0_0, .int .i64 a0_1, .int .i64 a0_2] 23 (0, 0)) (by (with_reducible repeat (first | refine blk_drewN ?_ _ | refine blk_drew ?_ | refine blk_alloc ?_ _)); exact BK299.out) hb); have n1_ := Aside0.mk (below_step (by repeat (first | (with_reducible first | exact HB.out | apply below_alloc | apply pw_below_drewN | apply below_drew1 | refine below_set ?_ GE299.out) | exact HB.out)) hb); clear BK299; clear HB; have BK299 := n0_; have HB := n1_; clear n0_ n1_; (try clear hb); (try clear hb2); (try clear hk); (try clear hi)) | ((with_reducible refine gate_dst (N := 5) rfl ?_); refine box_event ?hg (N := 5) ?hd (cs := #[.int .i64 0, .int .i64 0, .int .i64 0]) (t := 23) ?hr ?_; (case hd => rfl); (case hg => rfl); (case hr => first | (go_simp; done) | (go_simp; rfl)); intro gb306 hg w65 hbox hb; have n0_ := Aside0.mk (blk_below (g := gb299) (o := .cells #[.int .i64 a0_0, .int .i64 a0_1, .int .i64 a0_2] 23 (0, 0)) (by (with_reducible repeat (first | refine blk_drewN ?_ _ | refine blk_drew ?_ | refine blk_alloc ?_ _)); exact BK299.out) hb); have n1_ := Aside0.mk (below_step (by repeat (first | (with_reducible first | exact HB.out | apply below_alloc | apply pw_below_drewN | apply below_drew1 | refine below_set ?_ GE299.out) | exact HB.out)) hb); have n2_ := Aside0.mk (hbox); have n3_ := Aside0.mk ((by rw [hg]; exact (below_size (by repeat (first | (with_reducible first | exact HB.out | apply below_alloc | apply pw_below_drewN | apply below_drew1 | refine below_set ?_ GE299.out) | exact HB.out))) : w.heap.size ≤ gb306)); have n4_ := Aside0.mk ((by rw [hg]; exact (below_size (by repeat (first | (with_reducible first | exact HB.out | apply below_alloc | apply pw_below_drewN | apply below_drew1 | refine below_set ?_ GE299.out) | exact HB.out))) : w.heap.size ≤ gb306)); have n5_ := Aside0.mk ((by rw [hg]; exact Nat.ne_of_lt (blk_lt (g := gb299) (o := .cells #[.int .i64 a0_0, .int .i64 a0_1, .int .i64 a0_2] 23 (0, 0)) (by (with_reducible repeat (first | refine blk_drewN ?_ _ | refine blk_drew ?_ | refine blk_alloc ?_ _)); exact BK299.out)) : gb299 ≠ gb306)); have n6_ := Aside0.mk ((by rw [hg]; exact Nat.ne_of_gt (blk_lt (g := gb299) (o := .cells #[.int .i64 a0_0, .int .i64 a0_1, .int .i64 a0_2] 23 (0, 0)) (by (with_reducible repeat (first | refine blk_drewN ?_ _ | refine blk_drew ?_ | refine blk_alloc ?_ _)); exact BK299.out)) : gb306 ≠ gb299)); clear BK299; clear HB; have BK299 := n0_; have HB := n1_; have BK306 := n2_; have GW306 := n3_; have GE306 := n4_; have NB299_306 := n5_; have NB306_299 := n6_; clear n0_ n1_ n2_ n3_ n4_ n5_ n6_; clear hb hbox hg; have hnb66 := NB306_299.out; have hnc66 := NB299_306.out; have hcz67_0 : w65.cell? ⟨gb306, 0, none⟩ = some (.int .i64 0) := (blk_cell BK306.out 0).trans rfl; have hcz67_1 : w65.cell? ⟨gb306, 1, none⟩ = some (.int .i64 0) := (blk_cell BK306.out 1).trans rfl; have hcz67_2 : w65.cell? ⟨gb306, 2, none⟩ = some (.int .i64 0) := (blk_cell BK306.out 2).trans rfl; have hfz67_0 := blk_frozen BK306.out 0; have hfz67_1 := blk_frozen BK306.out 1; have hfz67_2 := blk_frozen BK306.out 2; have hcz68_0 : w65.cell? ⟨gb299, 0, none⟩ = some (.int .i64 a0_0) := (blk_cell BK299.out 0).trans rfl; have hcz68_1 : w65.cell? ⟨gb299, 1, none⟩ = some (.int .i64 a0_1) := (blk_cell BK299.out 1).trans rfl; have hcz68_2 : w65.cell? ⟨gb299, 2, none⟩ = some (.int .i64 a0_2) := (blk_cell BK299.out 2).trans rfl; have hfz68_0 := blk_frozen BK299.out 0; have hfz68_1 := blk_frozen BK299.out 1; have hfz68_2 := blk_frozen BK299.out 2) | ((with_reducible refine gate_callee (f := 13) rfl ?_); refine goesL_ (some 32) rfl rfl Try.func13 (by kernel_rfl) rfl #[.agg #[.int .i64 a0_0, .int .i64 a0_1, .int .i64 a0_2]] rfl (by (try simp only [List.map_toArray, List.map_cons, List.map_nil]); first | done | rfl | (simp only [List.length_drop, List.length_take]; rfl)) ?_; (with_reducible refine (stipendref03_Number.calls kj2 a0_0 a0_1 a0_2 t307 _ A13.out).mono ?_); rintro e w69 ⟨rfl, hb⟩; refine ⟨_, rfl, ?_⟩; have n0_ := Aside0.mk (blk_below (g := gb299) (o := .cells #[.int .i64 a0_0, .int .i64 a0_1, .int .i64 a0_2] 23 (0, 0)) (by (with_reducible repeat (first | refine blk_drewN ?_ _ | refine blk_drew ?_ | refine blk_alloc ?_ _)); refine blk_far ?_ NB299_306.out _; (with_reducible repeat (first | refine blk_drewN ?_ _ | refine blk_drew ?_ | refine blk_alloc ?_ _)); refine blk_far ?_ NB299_306.out _; (with_reducible repeat (first | refine blk_drewN ?_ _ | refine blk_drew ?_ | refine blk_alloc ?_ _)); refine blk_far ?_ NB299_306.out _; (with_reducible repeat (first | refine blk_drewN ?_ _ | refine blk_drew ?_ | refine blk_alloc ?_ _)); exact BK299.out) hb); have n1_ := Aside0.mk (blk_below (g := gb306) (o := .cells #[.int .i64 t302, .int .i64 t303, .int .i64 t304] 23 (0, 0)) (by (with_reducible repeat (first | refine blk_drewN ?_ _ | refine blk_drew ?_ | refine blk_alloc ?_ _)); refine blk_put (cs := #[.int .i64 t302, .int .i64 t303, .int .i64 0]) ?_ 2 _ rfl; (with_reducible repeat (first | refine blk_drewN ?_ _ | refine blk_drew ?_ | refine blk_alloc ?_ _)); refine blk_put (cs := #[.int .i64 t302, .int .i64 0, .int .i64 0]) ?_ 1 _ rfl; (with_reducible repeat (first | refine blk_drewN ?_ _ | refine blk_drew ?_ | refine blk_alloc ?_ _)); refine blk_put (cs := #[.int .i64 0, .int .i64 0, .int .i64 0]) ?_ 0 _ rfl; (with_reducible repeat (first | refine blk_drewN ?_ _ | refine blk_drew ?_ | refine blk_alloc ?_ _)); exact BK306.out) hb); have n2_ := Aside0.mk (below_step (by repeat (first | (with_reducible first | exact HB.out | apply below_alloc | apply pw_below_drewN | apply below_drew1 | refine below_set ?_ GE299.out | refine below_set ?_ GE306.out) | exact HB.out)) hb); clear BK299; clear BK306; clear HB; have BK299 := n0_; have BK306 := n1_; have HB := n2_; clear n0_ n1_ n2_; (try clear hb); (try clear hb2); (try clear hk); (try clear hi); have hcz70_0 : w69.cell? ⟨gb299, 0, none⟩ = some (.int .i64 a0_0) := (blk_cell BK299.out 0).trans rfl; have hcz70_1 : w69.cell? ⟨gb299, 1, none⟩ = some (.int .i64 a0_1) := (blk_cell BK299.out 1).trans rfl; have hcz70_2 : w69.cell? ⟨gb299, 2, none⟩ = some (.int .i64 a0_2) := (blk_cell BK299.out 2).trans rfl; have hfz70_0 := blk_frozen BK299.out 0; have hfz70_1 := blk_frozen BK299.out 1; have hfz70_2 := blk_frozen BK299.out 2) | ((with_reducible refine gate_callee (f := 31) rfl ?_); refine goesL_ (some 38) rfl rfl Try.func31 (by kernel_rfl) rfl #[.agg #[.int .i64 a0_0, .int .i64 a0_1, .int .i64 a0_2], .agg #[.int .i64 a0_0, .int .i64 a0_1, .int .i64 a0_2]] rfl (by (try simp only [List.map_toArray, List.map_cons, List.map_nil]); first | done | rfl | (simp only [List.length_drop, List.length_take]; rfl)) ?_; (with_reducible refine (date_Workdays.calls kj2 a0_0 a0_1 a0_2 a0_0 a0_1 a0_2 t308 t309 _ A15.out).mono ?_); rintro e w71 ⟨rfl, hb⟩; refine ⟨_, rfl, ?_⟩; have n0_ := Aside0.mk (blk_below (g := gb299) (o := .cells #[.int .i64 a0_0, .int .i64 a0_1, .int .i64 a0_2] 23 (0, 0)) (by (with_reducible repeat (first | refine blk_drewN ?_ _ | refine blk_drew ?_ | refine blk_alloc ?_ _)); exact BK299.out) hb); have n1_ := Aside0.mk (blk_below (g := gb306) (o := .cells #[.int .i64 t302, .int .i64 t303, .int .i64 t304] 23 (0, 0)) (by (with_reducible repeat (first | refine blk_drewN ?_ _ | refine blk_drew ?_ | refine blk_alloc ?_ _)); exact BK306.out) hb); have n2_ := Aside0.mk (below_step (by repeat (first | (with_reducible first | exact HB.out | apply below_alloc | apply pw_below_drewN | apply below_drew1 | refine below_set ?_ GE299.out | refine below_set ?_ GE306.out) | exact HB.out)) hb); clear BK299; clear BK306; clear HB; have BK299 := n0_; have BK306 := n1_; have HB := n2_; clear n0_ n1_ n2_; (try clear hb); (try clear hb2); (try clear hk); (try clear hi)))
            go_ret
            exact ⟨by first | rfl | (simp [errW_none, errW_some] <;> rfl) | (simp [*, errW_none, errW_some] <;> rfl), by repeat (first | (with_reducible first | exact HB.out | apply below_alloc | apply pw_below_drewN | apply below_drew1 | refine below_set ?_ GE299.out | refine below_set ?_ GE306.out) | exact HB.out)⟩
        · rw [if_neg c14] at H
          have c14b0 : decide (t307 < 0) = false := decide_eq_false c14
          clear c14
          have H' := Aside0.mk H
          clear H
          have hcz72_0 : wc.cell? ⟨gb299, 0, none⟩ = some (.int .i64 a0_0) := (blk_cell BK299.out 0).trans rfl
          have hcz72_1 : wc.cell? ⟨gb299, 1, none⟩ = some (.int .i64 a0_1) := (blk_cell BK299.out 1).trans rfl
          have hcz72_2 : wc.cell? ⟨gb299, 2, none⟩ = some (.int .i64 a0_2) := (blk_cell BK299.out 2).trans rfl
          have hfz72_0 := blk_frozen BK299.out 0
          have hfz72_1 := blk_frozen BK299.out 1
          have hfz72_2 := blk_frozen BK299.out 2
          go_wp2_with (first | ((with_reducible refine gate_callee (f := 30) rfl ?_); refine goesL_ (some 28) rfl rfl Try.func30 (by kernel_rfl) rfl #[.agg #[.int .i64 a0_0, .int .i64 a0_1, .int .i64 a0_2]] rfl (by (try simp only [List.map_toArray, List.map_cons, List.map_nil]); first | done | rfl | (simp only [List.length_drop, List.length_take]; rfl)) ?_; (with_reducible refine (date_Back.calls kj2 a0_0 a0_1 a0_2 t302 t303 t304 t305 _ A12.out).mono ?_); rintro e w73 ⟨rfl, hb⟩; refine ⟨_, rfl, ?_⟩; have n0_ := Aside0.mk (blk_below (g := gb299) (o := .cells #[.int .i64 a0_0, .int .i64 a0_1, .int .i64 a0_2] 23 (0, 0)) (by (with_reducible repeat (first | refine blk_drewN ?_ _ | refine blk_drew ?_ | refine blk_alloc ?_ _)); exact BK299.out) hb); have n1_ := Aside0.mk (below_step (by repeat (first | (with_reducible first | exact HB.out | apply below_alloc | apply pw_below_drewN | apply below_drew1 | refine below_set ?_ GE299.out) | exact HB.out)) hb); clear BK299; clear HB; have BK299 := n0_; have HB := n1_; clear n0_ n1_; (try clear hb); (try clear hb2); (try clear hk); (try clear hi)) | ((with_reducible refine gate_dst (N := 5) rfl ?_); refine box_event ?hg (N := 5) ?hd (cs := #[.int .i64 0, .int .i64 0, .int .i64 0]) (t := 23) ?hr ?_; (case hd => rfl); (case hg => rfl); (case hr => first | (go_simp; done) | (go_simp; rfl)); intro gb306 hg w74 hbox hb; have n0_ := Aside0.mk (blk_below (g := gb299) (o := .cells #[.int .i64 a0_0, .int .i64 a0_1, .int .i64 a0_2] 23 (0, 0)) (by (with_reducible repeat (first | refine blk_drewN ?_ _ | refine blk_drew ?_ | refine blk_alloc ?_ _)); exact BK299.out) hb); have n1_ := Aside0.mk (below_step (by repeat (first | (with_reducible first | exact HB.out | apply below_alloc | apply pw_below_drewN | apply below_drew1 | refine below_set ?_ GE299.out) | exact HB.out)) hb); have n2_ := Aside0.mk (hbox); have n3_ := Aside0.mk ((by rw [hg]; exact (below_size (by repeat (first | (with_reducible first | exact HB.out | apply below_alloc | apply pw_below_drewN | apply below_drew1 | refine below_set ?_ GE299.out) | exact HB.out))) : w.heap.size ≤ gb306)); have n4_ := Aside0.mk ((by rw [hg]; exact (below_size (by repeat (first | (with_reducible first | exact HB.out | apply below_alloc | apply pw_below_drewN | apply below_drew1 | refine below_set ?_ GE299.out) | exact HB.out))) : w.heap.size ≤ gb306)); have n5_ := Aside0.mk ((by rw [hg]; exact Nat.ne_of_lt (blk_lt (g := gb299) (o := .cells #[.int .i64 a0_0, .int .i64 a0_1, .int .i64 a0_2] 23 (0, 0)) (by (with_reducible repeat (first | refine blk_drewN ?_ _ | refine blk_drew ?_ | refine blk_alloc ?_ _)); exact BK299.out)) : gb299 ≠ gb306)); have n6_ := Aside0.mk ((by rw [hg]; exact Nat.ne_of_gt (blk_lt (g := gb299) (o := .cells #[.int .i64 a0_0, .int .i64 a0_1, .int .i64 a0_2] 23 (0, 0)) (by (with_reducible repeat (first | refine blk_drewN ?_ _ | refine blk_drew ?_ | refine blk_alloc ?_ _)); exact BK299.out)) : gb306 ≠ gb299)); clear BK299; clear HB; have BK299 := n0_; have HB := n1_; have BK306 := n2_; have GW306 := n3_; have GE306 := n4_; have NB299_306 := n5_; have NB306_299 := n6_; clear n0_ n1_ n2_ n3_ n4_ n5_ n6_; clear hb hbox hg; have hnb75 := NB306_299.out; have hnc75 := NB299_306.out; have hcz76_0 : w74.cell? ⟨gb306, 0, none⟩ = some (.int .i64 0) := (blk_cell BK306.out 0).trans rfl; have hcz76_1 : w74.cell? ⟨gb306, 1, none⟩ = some (.int .i64 0) := (blk_cell BK306.out 1).trans rfl; have hcz76_2 : w74.cell? ⟨gb306, 2, none⟩ = some (.int .i64 0) := (blk_cell BK306.out 2).trans rfl; have hfz76_0 := blk_frozen BK306.out 0; have hfz76_1 := blk_frozen BK306.out 1; have hfz76_2 := blk_frozen BK306.out 2; have hcz77_0 : w74.cell? ⟨gb299, 0, none⟩ = some (.int .i64 a0_0) := (blk_cell BK299.out 0).trans rfl; have hcz77_1 : w74.cell? ⟨gb299, 1, none⟩ = some (.int .i64 a0_1) := (blk_cell BK299.out 1).trans rfl; have hcz77_2 : w74.cell? ⟨gb299, 2, none⟩ = some (.int .i64 a0_2) := (blk_cell BK299.out 2).trans rfl; have hfz77_0 := blk_frozen BK299.out 0; have hfz77_1 := blk_frozen BK299.out 1; have hfz77_2 := blk_frozen BK299.out 2) | ((with_reducible refine gate_callee (f := 13) rfl ?_); refine goesL_ (some 32) rfl rfl Try.func13 (by kernel_rfl) rfl #[.agg #[.int .i64 a0_0, .int .i64 a0_1, .int .i64 a0_2]] rfl (by (try simp only [List.map_toArray, List.map_cons, List.map_nil]); first | done | rfl | (simp only [List.length_drop, List.length_take]; rfl)) ?_; (with_reducible refine (stipendref03_Number.calls kj2 a0_0 a0_1 a0_2 t307 _ A13.out).mono ?_); rintro e w78 ⟨rfl, hb⟩; refine ⟨_, rfl, ?_⟩; have n0_ := Aside0.mk (blk_below (g := gb299) (o := .cells #[.int .i64 a0_0, .int .i64 a0_1, .int .i64 a0_2] 23 (0, 0)) (by (with_reducible repeat (first | refine blk_drewN ?_ _ | refine blk_drew ?_ | refine blk_alloc ?_ _)); refine blk_far ?_ NB299_306.out _; (with_reducible repeat (first | refine blk_drewN ?_ _ | refine blk_drew ?_ | refine blk_alloc ?_ _)); refine blk_far ?_ NB299_306.out _; (with_reducible repeat (first | refine blk_drewN ?_ _ | refine blk_drew ?_ | refine blk_alloc ?_ _)); refine blk_far ?_ NB299_306.out _; (with_reducible repeat (first | refine blk_drewN ?_ _ | refine blk_drew ?_ | refine blk_alloc ?_ _)); exact BK299.out) hb); have n1_ := Aside0.mk (blk_below (g := gb306) (o := .cells #[.int .i64 t302, .int .i64 t303, .int .i64 t304] 23 (0, 0)) (by (with_reducible repeat (first | refine blk_drewN ?_ _ | refine blk_drew ?_ | refine blk_alloc ?_ _)); refine blk_put (cs := #[.int .i64 t302, .int .i64 t303, .int .i64 0]) ?_ 2 _ rfl; (with_reducible repeat (first | refine blk_drewN ?_ _ | refine blk_drew ?_ | refine blk_alloc ?_ _)); refine blk_put (cs := #[.int .i64 t302, .int .i64 0, .int .i64 0]) ?_ 1 _ rfl; (with_reducible repeat (first | refine blk_drewN ?_ _ | refine blk_drew ?_ | refine blk_alloc ?_ _)); refine blk_put (cs := #[.int .i64 0, .int .i64 0, .int .i64 0]) ?_ 0 _ rfl; (with_reducible repeat (first | refine blk_drewN ?_ _ | refine blk_drew ?_ | refine blk_alloc ?_ _)); exact BK306.out) hb); have n2_ := Aside0.mk (below_step (by repeat (first | (with_reducible first | exact HB.out | apply below_alloc | apply pw_below_drewN | apply below_drew1 | refine below_set ?_ GE299.out | refine below_set ?_ GE306.out) | exact HB.out)) hb); clear BK299; clear BK306; clear HB; have BK299 := n0_; have BK306 := n1_; have HB := n2_; clear n0_ n1_ n2_; (try clear hb); (try clear hb2); (try clear hk); (try clear hi)))
          go_loopg [10] kj2 (fun kq v10 w' => ∃ (x10_2 : Int), v10 = .int .i64 x10_2 ∧ Aside0 (stipendlaw03_DateWorks.l0 kq a1 t305 t307 x10_2 a0_0 a0_1 a0_2 t302 t303 t304 = some r) ∧ Aside0 (kq ≤ kj2) ∧ Aside0 (w'.heap[gb299]? = some (.cells #[.int .i64 a0_0, .int .i64 a0_1, .int .i64 a0_2] 23 (0, 0))) ∧ Aside0 (w'.heap[gb306]? = some (.cells #[.int .i64 t302, .int .i64 t303, .int .i64 t304] 23 (0, 0))) ∧ Aside0 (Below w.heap.size w w'))
          case atStart => exact ⟨(t307), (by first | rfl | (simp; done) | (simp [*]; done)), H', ⟨Nat.le_refl _⟩, ⟨by (with_reducible repeat (first | refine blk_drewN ?_ _ | refine blk_drew ?_ | refine blk_alloc ?_ _)); exact BK299.out⟩, ⟨by (with_reducible repeat (first | refine blk_drewN ?_ _ | refine blk_drew ?_ | refine blk_alloc ?_ _)); exact BK306.out⟩, ⟨by repeat (first | (with_reducible first | exact HB.out | apply below_alloc | apply pw_below_drewN | apply below_drew1 | refine below_set ?_ GE299.out | refine below_set ?_ GE306.out) | exact HB.out)⟩⟩
          case round =>
            clear H'
            try clear c1
            try clear c2
            try clear p2
            try clear c3
            try clear c4
            try clear c5
            try clear c6
            try clear c7
            try clear c9
            try clear c10
            try clear c11
            try clear c13
            try clear c14
            try clear c14b0
            try clear c16
            try clear c16b0
            try clear c16b1
            try clear c17
            try clear c17b0
            try clear c17b1
            try clear c17b2
            try clear c18
            try clear c18b0
            try clear c18b1
            try clear c19
            try clear c19b0
            try clear c19b1
            try clear c24
            try clear c30
            try clear c31
            try clear c36
            try clear c46
            try clear c56
            try clear c66
            try clear c75
            try clear hcz21_0
            try clear hcz21_1
            try clear hcz21_2
            try clear hcz25_0
            try clear hcz25_1
            try clear hcz25_2
            try clear hcz26_0
            try clear hcz26_1
            try clear hcz26_2
            try clear hcz28_0
            try clear hcz28_1
            try clear hcz28_2
            try clear hcz30_0
            try clear hcz30_1
            try clear hcz30_2
            try clear hcz31_0
            try clear hcz31_1
            try clear hcz31_2
            try clear hcz33_0
            try clear hcz33_1
            try clear hcz33_2
            try clear hcz37_0
            try clear hcz37_1
            try clear hcz37_2
            try clear hcz38_0
            try clear hcz38_1
            try clear hcz38_2
            try clear hcz40_0
            try clear hcz40_1
            try clear hcz40_2
            try clear hcz42_0
            try clear hcz42_1
            try clear hcz42_2
            try clear hcz43_0
            try clear hcz43_1
            try clear hcz43_2
            try clear hcz47_0
            try clear hcz47_1
            try clear hcz47_2
            try clear hcz48_0
            try clear hcz48_1
            try clear hcz48_2
            try clear hcz50_0
            try clear hcz50_1
            try clear hcz50_2
            try clear hcz52_0
            try clear hcz52_1
            try clear hcz52_2
            try clear hcz53_0
            try clear hcz53_1
            try clear hcz53_2
            try clear hcz57_0
            try clear hcz57_1
            try clear hcz57_2
            try clear hcz58_0
            try clear hcz58_1
            try clear hcz58_2
            try clear hcz60_0
            try clear hcz60_1
            try clear hcz60_2
            try clear hcz62_0
            try clear hcz62_1
            try clear hcz62_2
            try clear hcz63_0
            try clear hcz63_1
            try clear hcz63_2
            try clear hcz67_0
            try clear hcz67_1
            try clear hcz67_2
            try clear hcz68_0
            try clear hcz68_1
            try clear hcz68_2
            try clear hcz70_0
            try clear hcz70_1
            try clear hcz70_2
            try clear hcz72_0
            try clear hcz72_1
            try clear hcz72_2
            try clear hcz76_0
            try clear hcz76_1
            try clear hcz76_2
            try clear hcz77_0
            try clear hcz77_1
            try clear hcz77_2
            try clear hfz21_0
            try clear hfz21_1
            try clear hfz21_2
            try clear hfz25_0
            try clear hfz25_1
            try clear hfz25_2
            try clear hfz26_0
            try clear hfz26_1
            try clear hfz26_2
            try clear hfz28_0
            try clear hfz28_1
            try clear hfz28_2
            try clear hfz30_0
            try clear hfz30_1
            try clear hfz30_2
            try clear hfz31_0
            try clear hfz31_1
            try clear hfz31_2
            try clear hfz33_0
            try clear hfz33_1
            try clear hfz33_2
            try clear hfz37_0
            try clear hfz37_1
            try clear hfz37_2
            try clear hfz38_0
            try clear hfz38_1
            try clear hfz38_2
            try clear hfz40_0
            try clear hfz40_1
            try clear hfz40_2
            try clear hfz42_0
            try clear hfz42_1
            try clear hfz42_2
            try clear hfz43_0
            try clear hfz43_1
            try clear hfz43_2
            try clear hfz47_0
            try clear hfz47_1
            try clear hfz47_2
            try clear hfz48_0
            try clear hfz48_1
            try clear hfz48_2
            try clear hfz50_0
            try clear hfz50_1
            try clear hfz50_2
            try clear hfz52_0
            try clear hfz52_1
            try clear hfz52_2
            try clear hfz53_0
            try clear hfz53_1
            try clear hfz53_2
            try clear hfz57_0
            try clear hfz57_1
            try clear hfz57_2
            try clear hfz58_0
            try clear hfz58_1
            try clear hfz58_2
            try clear hfz60_0
            try clear hfz60_1
            try clear hfz60_2
            try clear hfz62_0
            try clear hfz62_1
            try clear hfz62_2
            try clear hfz63_0
            try clear hfz63_1
            try clear hfz63_2
            try clear hfz67_0
            try clear hfz67_1
            try clear hfz67_2
            try clear hfz68_0
            try clear hfz68_1
            try clear hfz68_2
            try clear hfz70_0
            try clear hfz70_1
            try clear hfz70_2
            try clear hfz72_0
            try clear hfz72_1
            try clear hfz72_2
            try clear hfz76_0
            try clear hfz76_1
            try clear hfz76_2
            try clear hfz77_0
            try clear hfz77_1
            try clear hfz77_2
            try clear p2
            obtain ⟨x10_2, rfl, HA, HK2, BK299, BK306, HB⟩ := hrel
            cases gk with
            | zero => exact absurd HA.out (by simp [stipendlaw03_DateWorks.l0])
            | succ k2 =>
              have H := HA.out
              clear HA
              simp only [stipendlaw03_DateWorks.l0] at H
              by_cases c79 : (Int.tmod x10_2 7) > 4
              · rw [if_pos c79] at H
                have c79b0 : decide (4 < (Int.tmod x10_2 7)) = true := decide_eq_true c79
                clear c79
                have H' := Aside0.mk H
                clear H
                go_wp2
                go_roundg k2
                case measure => have := HJ2.out; have := HK2.out; omega
                case rel => exact ⟨(wrap64 (x10_2 - 1)), (by first | rfl | (simp; done) | (simp [*]; done)), H', ⟨by have := HJ2.out; have := HK2.out; omega⟩, ⟨by (with_reducible repeat (first | refine blk_drewN ?_ _ | refine blk_drew ?_ | refine blk_alloc ?_ _)); exact BK299.out⟩, ⟨by (with_reducible repeat (first | refine blk_drewN ?_ _ | refine blk_drew ?_ | refine blk_alloc ?_ _)); exact BK306.out⟩, ⟨by repeat (first | (with_reducible first | exact HB.out | apply below_alloc | apply pw_below_drewN | apply below_drew1 | refine below_set ?_ GE299.out | refine below_set ?_ GE306.out) | exact HB.out)⟩⟩
              · rw [if_neg c79] at H
                have c79b0 : decide (4 < (Int.tmod x10_2 7)) = false := decide_eq_false c79
                clear c79
                replace H := Option.bind_eq_some_iff.mp H
                obtain ⟨⟨t311, t312, t313, t314⟩, A800, H⟩ := H
                replace H : (if t305 = 0 then (if (!(t302 == t311) || (!(t303 == t312) || (!(t304 == t313)))) = true then (stipendlaw03_DateWorks.j2 k2 a1 t307 true a0_0 a0_1 a0_2) else ((date_Workday.f k2 a0_0 a0_1 a0_2).bind fun t316 => (stipendlaw03_DateWorks.j2 k2 a1 t307 (t316 != (decide ((Int.tmod t307 7) < 5))) a0_0 a0_1 a0_2))) else (stipendlaw03_DateWorks.j2 k2 a1 t307 true a0_0 a0_1 a0_2)) = some r := H
                have A80 := Aside0.mk A800
                clear A800
                have HC81 := Aside0.mk H
                clear H
                go_upto_region 12 with (first | ((with_reducible refine gate_callee (f := 19) rfl ?_); refine goesL_ (some 69) rfl rfl Try.func19 (by kernel_rfl) rfl #[.int .i64 x10_2] rfl (by (try simp only [List.map_toArray, List.map_cons, List.map_nil]); first | done | rfl | (simp only [List.length_drop, List.length_take]; rfl)) ?_; (with_reducible refine (stipendref03_Of.calls k2 x10_2 t311 t312 t313 t314 _ A80.out).mono ?_); rintro e w82 ⟨rfl, hb⟩; refine ⟨_, rfl, ?_⟩; have n0_ := Aside0.mk (blk_below (g := gb299) (o := .cells #[.int .i64 a0_0, .int .i64 a0_1, .int .i64 a0_2] 23 (0, 0)) (by (with_reducible repeat (first | refine blk_drewN ?_ _ | refine blk_drew ?_ | refine blk_alloc ?_ _)); exact BK299.out) hb); have n1_ := Aside0.mk (blk_below (g := gb306) (o := .cells #[.int .i64 t302, .int .i64 t303, .int .i64 t304] 23 (0, 0)) (by (with_reducible repeat (first | refine blk_drewN ?_ _ | refine blk_drew ?_ | refine blk_alloc ?_ _)); exact BK306.out) hb); have n2_ := Aside0.mk (below_step (by repeat (first | (with_reducible first | exact HB.out | apply below_alloc | apply pw_below_drewN | apply below_drew1 | refine below_set ?_ GE299.out | refine below_set ?_ GE306.out) | exact HB.out)) hb); clear BK299; clear BK306; clear HB; have BK299 := n0_; have BK306 := n1_; have HB := n2_; clear n0_ n1_ n2_; (try clear hb); (try clear hb2); (try clear hk); (try clear hi)) | ((with_reducible refine gate_dst (N := 11) rfl ?_); refine box_event ?hg (N := 11) ?hd (cs := #[.int .i64 0, .int .i64 0, .int .i64 0]) (t := 23) ?hr ?_; (case hd => rfl); (case hg => rfl); (case hr => first | (go_simp; done) | (go_simp; rfl)); intro gb315 hg w83 hbox hb; have n0_ := Aside0.mk (blk_below (g := gb299) (o := .cells #[.int .i64 a0_0, .int .i64 a0_1, .int .i64 a0_2] 23 (0, 0)) (by (with_reducible repeat (first | refine blk_drewN ?_ _ | refine blk_drew ?_ | refine blk_alloc ?_ _)); exact BK299.out) hb); have n1_ := Aside0.mk (blk_below (g := gb306) (o := .cells #[.int .i64 t302, .int .i64 t303, .int .i64 t304] 23 (0, 0)) (by (with_reducible repeat (first | refine blk_drewN ?_ _ | refine blk_drew ?_ | refine blk_alloc ?_ _)); exact BK306.out) hb); have n2_ := Aside0.mk (below_step (by repeat (first | (with_reducible first | exact HB.out | apply below_alloc | apply pw_below_drewN | apply below_drew1 | refine below_set ?_ GE299.out | refine below_set ?_ GE306.out) | exact HB.out)) hb); have n3_ := Aside0.mk (hbox); have n4_ := Aside0.mk ((by rw [hg]; exact (below_size (by repeat (first | (with_reducible first | exact HB.out | apply below_alloc | apply pw_below_drewN | apply below_drew1 | refine below_set ?_ GE299.out | refine below_set ?_ GE306.out) | exact HB.out))) : w.heap.size ≤ gb315)); have n5_ := Aside0.mk ((by rw [hg]; exact (below_size (by repeat (first | (with_reducible first | exact HB.out | apply below_alloc | apply pw_below_drewN | apply below_drew1 | refine below_set ?_ GE299.out | refine below_set ?_ GE306.out) | exact HB.out))) : w.heap.size ≤ gb315)); have n6_ := Aside0.mk ((by rw [hg]; exact Nat.ne_of_lt (blk_lt (g := gb299) (o := .cells #[.int .i64 a0_0, .int .i64 a0_1, .int .i64 a0_2] 23 (0, 0)) (by (with_reducible repeat (first | refine blk_drewN ?_ _ | refine blk_drew ?_ | refine blk_alloc ?_ _)); exact BK299.out)) : gb299 ≠ gb315)); have n7_ := Aside0.mk ((by rw [hg]; exact Nat.ne_of_gt (blk_lt (g := gb299) (o := .cells #[.int .i64 a0_0, .int .i64 a0_1, .int .i64 a0_2] 23 (0, 0)) (by (with_reducible repeat (first | refine blk_drewN ?_ _ | refine blk_drew ?_ | refine blk_alloc ?_ _)); exact BK299.out)) : gb315 ≠ gb299)); have n8_ := Aside0.mk ((by rw [hg]; exact Nat.ne_of_lt (blk_lt (g := gb306) (o := .cells #[.int .i64 t302, .int .i64 t303, .int .i64 t304] 23 (0, 0)) (by (with_reducible repeat (first | refine blk_drewN ?_ _ | refine blk_drew ?_ | refine blk_alloc ?_ _)); exact BK306.out)) : gb306 ≠ gb315)); have n9_ := Aside0.mk ((by rw [hg]; exact Nat.ne_of_gt (blk_lt (g := gb306) (o := .cells #[.int .i64 t302, .int .i64 t303, .int .i64 t304] 23 (0, 0)) (by (with_reducible repeat (first | refine blk_drewN ?_ _ | refine blk_drew ?_ | refine blk_alloc ?_ _)); exact BK306.out)) : gb315 ≠ gb306)); clear BK299; clear BK306; clear HB; have BK299 := n0_; have BK306 := n1_; have HB := n2_; have BK315 := n3_; have GW315 := n4_; have GE315 := n5_; have NB299_315 := n6_; have NB315_299 := n7_; have NB306_315 := n8_; have NB315_306 := n9_; clear n0_ n1_ n2_ n3_ n4_ n5_ n6_ n7_ n8_ n9_; clear hb hbox hg; have hnb84 := NB315_299.out; have hnc84 := NB299_315.out; have hnb85 := NB315_306.out; have hnc85 := NB306_315.out; have hcz86_0 : w83.cell? ⟨gb315, 0, none⟩ = some (.int .i64 0) := (blk_cell BK315.out 0).trans rfl; have hcz86_1 : w83.cell? ⟨gb315, 1, none⟩ = some (.int .i64 0) := (blk_cell BK315.out 1).trans rfl; have hcz86_2 : w83.cell? ⟨gb315, 2, none⟩ = some (.int .i64 0) := (blk_cell BK315.out 2).trans rfl; have hfz86_0 := blk_frozen BK315.out 0; have hfz86_1 := blk_frozen BK315.out 1; have hfz86_2 := blk_frozen BK315.out 2))
                (try simp only [Act.put, List.setIfInBounds_toArray, List.set_cons_zero, List.set_cons_succ])
                go_cut [86] (fun v86 wc => ∃ (kq : Nat) (x86_80 : Bool), v86 = .bool x86_80 ∧ Aside0 (stipendlaw03_DateWorks.j2 kq a1 t307 x86_80 a0_0 a0_1 a0_2 = some r) ∧ Aside0 (kq ≤ k2) ∧ Aside0 (wc.heap[gb299]? = some (.cells #[.int .i64 a0_0, .int .i64 a0_1, .int .i64 a0_2] 23 (0, 0))) ∧ Aside0 (wc.heap[gb306]? = some (.cells #[.int .i64 t302, .int .i64 t303, .int .i64 t304] 23 (0, 0))) ∧ Aside0 (wc.heap[gb315]? = some (.cells #[.int .i64 t311, .int .i64 t312, .int .i64 t313] 23 (0, 0))) ∧ Aside0 (Below w.heap.size w wc))
                case first =>
                  have H := HC81.out
                  clear HC81
                  by_cases c87 : t305 = 0
                  · rw [if_pos c87] at H
                    have c87b0 : (t305 == 0) = true := beq_iff_eq.mpr c87
                    have c87b1 : (t305 != 0) = false := bne_eq_false_iff_eq.mpr c87
                    clear c87
                    (first | rw [c87b0] | (simp only [i64_w, i32_w]; rw [c87b0]) | skip)
                    by_cases c88 : (!(t302 == t311) || (!(t303 == t312) || (!(t304 == t313)))) = true
                    · rw [if_pos c88] at H
                      have c88b0 : (!(t302 == t311) || (!(t303 == t312) || (!(t304 == t313)))) = true := c88
                      clear c88
                      have H' := Aside0.mk H
                      clear H
                      have hnb89 := NB306_299.out
                      have hnc89 := NB299_306.out
                      have hnb90 := NB306_315.out
                      have hnc90 := NB315_306.out
                      have hcz91_0 : w83.cell? ⟨gb306, 0, none⟩ = some (.int .i64 t302) := (blk_cell BK306.out 0).trans rfl
                      have hcz91_1 : w83.cell? ⟨gb306, 1, none⟩ = some (.int .i64 t303) := (blk_cell BK306.out 1).trans rfl
                      have hcz91_2 : w83.cell? ⟨gb306, 2, none⟩ = some (.int .i64 t304) := (blk_cell BK306.out 2).trans rfl
                      have hfz91_0 := blk_frozen BK306.out 0
                      have hfz91_1 := blk_frozen BK306.out 1
                      have hfz91_2 := blk_frozen BK306.out 2
                      have hnb92 := NB315_299.out
                      have hnc92 := NB299_315.out
                      have hcz93_0 : w83.cell? ⟨gb315, 0, none⟩ = some (.int .i64 0) := (blk_cell BK315.out 0).trans rfl
                      have hcz93_1 : w83.cell? ⟨gb315, 1, none⟩ = some (.int .i64 0) := (blk_cell BK315.out 1).trans rfl
                      have hcz93_2 : w83.cell? ⟨gb315, 2, none⟩ = some (.int .i64 0) := (blk_cell BK315.out 2).trans rfl
                      have hfz93_0 := blk_frozen BK315.out 0
                      have hfz93_1 := blk_frozen BK315.out 1
                      have hfz93_2 := blk_frozen BK315.out 2
                      go_wp2
                      go_meet
                      case rel => exact ⟨_, (true), (by first | rfl | (simp; done) | (simp [*]; done)), H', ⟨by have := HJ2.out; have := HK2.out; first | omega | exact Nat.le_refl _⟩, ⟨by (with_reducible repeat (first | refine blk_drewN ?_ _ | refine blk_drew ?_ | refine blk_alloc ?_ _)); refine blk_far ?_ NB299_315.out _; (with_reducible repeat (first | refine blk_drewN ?_ _ | refine blk_drew ?_ | refine blk_alloc ?_ _)); refine blk_far ?_ NB299_315.out _; (with_reducible repeat (first | refine blk_drewN ?_ _ | refine blk_drew ?_ | refine blk_alloc ?_ _)); refine blk_far ?_ NB299_315.out _; (with_reducible repeat (first | refine blk_drewN ?_ _ | refine blk_drew ?_ | refine blk_alloc ?_ _)); exact BK299.out⟩, ⟨by (with_reducible repeat (first | refine blk_drewN ?_ _ | refine blk_drew ?_ | refine blk_alloc ?_ _)); refine blk_far ?_ NB306_315.out _; (with_reducible repeat (first | refine blk_drewN ?_ _ | refine blk_drew ?_ | refine blk_alloc ?_ _)); refine blk_far ?_ NB306_315.out _; (with_reducible repeat (first | refine blk_drewN ?_ _ | refine blk_drew ?_ | refine blk_alloc ?_ _)); refine blk_far ?_ NB306_315.out _; (with_reducible repeat (first | refine blk_drewN ?_ _ | refine blk_drew ?_ | refine blk_alloc ?_ _)); exact BK306.out⟩, ⟨by (with_reducible repeat (first | refine blk_drewN ?_ _ | refine blk_drew ?_ | refine blk_alloc ?_ _)); refine blk_put (cs := #[.int .i64 t311, .int .i64 t312, .int .i64 0]) ?_ 2 _ rfl; (with_reducible repeat (first | refine blk_drewN ?_ _ | refine blk_drew ?_ | refine blk_alloc ?_ _)); refine blk_put (cs := #[.int .i64 t311, .int .i64 0, .int .i64 0]) ?_ 1 _ rfl; (with_reducible repeat (first | refine blk_drewN ?_ _ | refine blk_drew ?_ | refine blk_alloc ?_ _)); refine blk_put (cs := #[.int .i64 0, .int .i64 0, .int .i64 0]) ?_ 0 _ rfl; (with_reducible repeat (first | refine blk_drewN ?_ _ | refine blk_drew ?_ | refine blk_alloc ?_ _)); exact BK315.out⟩, ⟨by repeat (first | (with_reducible first | exact HB.out | apply below_alloc | apply pw_below_drewN | apply below_drew1 | refine below_set ?_ GE299.out | refine below_set ?_ GE306.out | refine below_set ?_ GE315.out) | exact HB.out)⟩⟩
                    · rw [if_neg c88] at H
                      have c88b0 : (!(t302 == t311) || (!(t303 == t312) || (!(t304 == t313)))) = false := by simpa using c88
                      clear c88
                      replace H := Option.bind_eq_some_iff.mp H
                      obtain ⟨t316, A940, H⟩ := H
                      replace H : (stipendlaw03_DateWorks.j2 k2 a1 t307 (t316 != (decide ((Int.tmod t307 7) < 5))) a0_0 a0_1 a0_2) = some r := H
                      have A94 := Aside0.mk A940
                      clear A940
                      have H' := Aside0.mk H
                      clear H
                      have hnb95 := NB306_299.out
                      have hnc95 := NB299_306.out
                      have hnb96 := NB306_315.out
                      have hnc96 := NB315_306.out
                      have hcz97_0 : w83.cell? ⟨gb306, 0, none⟩ = some (.int .i64 t302) := (blk_cell BK306.out 0).trans rfl
                      have hcz97_1 : w83.cell? ⟨gb306, 1, none⟩ = some (.int .i64 t303) := (blk_cell BK306.out 1).trans rfl
                      have hcz97_2 : w83.cell? ⟨gb306, 2, none⟩ = some (.int .i64 t304) := (blk_cell BK306.out 2).trans rfl
                      have hfz97_0 := blk_frozen BK306.out 0
                      have hfz97_1 := blk_frozen BK306.out 1
                      have hfz97_2 := blk_frozen BK306.out 2
                      have hnb98 := NB315_299.out
                      have hnc98 := NB299_315.out
                      have hcz99_0 : w83.cell? ⟨gb315, 0, none⟩ = some (.int .i64 0) := (blk_cell BK315.out 0).trans rfl
                      have hcz99_1 : w83.cell? ⟨gb315, 1, none⟩ = some (.int .i64 0) := (blk_cell BK315.out 1).trans rfl
                      have hcz99_2 : w83.cell? ⟨gb315, 2, none⟩ = some (.int .i64 0) := (blk_cell BK315.out 2).trans rfl
                      have hfz99_0 := blk_frozen BK315.out 0
                      have hfz99_1 := blk_frozen BK315.out 1
                      have hfz99_2 := blk_frozen BK315.out 2
                      have hcz100_0 : w83.cell? ⟨gb299, 0, none⟩ = some (.int .i64 a0_0) := (blk_cell BK299.out 0).trans rfl
                      have hcz100_1 : w83.cell? ⟨gb299, 1, none⟩ = some (.int .i64 a0_1) := (blk_cell BK299.out 1).trans rfl
                      have hcz100_2 : w83.cell? ⟨gb299, 2, none⟩ = some (.int .i64 a0_2) := (blk_cell BK299.out 2).trans rfl
                      have hfz100_0 := blk_frozen BK299.out 0
                      have hfz100_1 := blk_frozen BK299.out 1
                      have hfz100_2 := blk_frozen BK299.out 2
                      go_wp2_with (first | (go_at_call 29; (with_reducible refine (date_Workday.calls k2 a0_0 a0_1 a0_2 t316 _ A94.out).mono ?_); rintro e w101 ⟨rfl, hb⟩; have n0_ := Aside0.mk (blk_below (g := gb299) (o := .cells #[.int .i64 a0_0, .int .i64 a0_1, .int .i64 a0_2] 23 (0, 0)) (by (with_reducible repeat (first | refine blk_drewN ?_ _ | refine blk_drew ?_ | refine blk_alloc ?_ _)); refine blk_far ?_ NB299_315.out _; (with_reducible repeat (first | refine blk_drewN ?_ _ | refine blk_drew ?_ | refine blk_alloc ?_ _)); refine blk_far ?_ NB299_315.out _; (with_reducible repeat (first | refine blk_drewN ?_ _ | refine blk_drew ?_ | refine blk_alloc ?_ _)); refine blk_far ?_ NB299_315.out _; (with_reducible repeat (first | refine blk_drewN ?_ _ | refine blk_drew ?_ | refine blk_alloc ?_ _)); exact BK299.out) hb); have n1_ := Aside0.mk (blk_below (g := gb306) (o := .cells #[.int .i64 t302, .int .i64 t303, .int .i64 t304] 23 (0, 0)) (by (with_reducible repeat (first | refine blk_drewN ?_ _ | refine blk_drew ?_ | refine blk_alloc ?_ _)); refine blk_far ?_ NB306_315.out _; (with_reducible repeat (first | refine blk_drewN ?_ _ | refine blk_drew ?_ | refine blk_alloc ?_ _)); refine blk_far ?_ NB306_315.out _; (with_reducible repeat (first | refine blk_drewN ?_ _ | refine blk_drew ?_ | refine blk_alloc ?_ _)); refine blk_far ?_ NB306_315.out _; (with_reducible repeat (first | refine blk_drewN ?_ _ | refine blk_drew ?_ | refine blk_alloc ?_ _)); exact BK306.out) hb); have n2_ := Aside0.mk (blk_below (g := gb315) (o := .cells #[.int .i64 t311, .int .i64 t312, .int .i64 t313] 23 (0, 0)) (by (with_reducible repeat (first | refine blk_drewN ?_ _ | refine blk_drew ?_ | refine blk_alloc ?_ _)); refine blk_put (cs := #[.int .i64 t311, .int .i64 t312, .int .i64 0]) ?_ 2 _ rfl; (with_reducible repeat (first | refine blk_drewN ?_ _ | refine blk_drew ?_ | refine blk_alloc ?_ _)); refine blk_put (cs := #[.int .i64 t311, .int .i64 0, .int .i64 0]) ?_ 1 _ rfl; (with_reducible repeat (first | refine blk_drewN ?_ _ | refine blk_drew ?_ | refine blk_alloc ?_ _)); refine blk_put (cs := #[.int .i64 0, .int .i64 0, .int .i64 0]) ?_ 0 _ rfl; (with_reducible repeat (first | refine blk_drewN ?_ _ | refine blk_drew ?_ | refine blk_alloc ?_ _)); exact BK315.out) hb); have n3_ := Aside0.mk (below_step (by repeat (first | (with_reducible first | exact HB.out | apply below_alloc | apply pw_below_drewN | apply below_drew1 | refine below_set ?_ GE299.out | refine below_set ?_ GE306.out | refine below_set ?_ GE315.out) | exact HB.out)) hb); clear BK299; clear BK306; clear BK315; clear HB; have BK299 := n0_; have BK306 := n1_; have BK315 := n2_; have HB := n3_; clear n0_ n1_ n2_ n3_; (try clear hb); (try clear hb2); (try clear hk); (try clear hi)))
                      go_meet
                      case rel => exact ⟨_, ((t316 != (decide ((Int.tmod t307 7) < 5)))), (by first | rfl | (simp; done) | (simp [*]; done)), H', ⟨by have := HJ2.out; have := HK2.out; first | omega | exact Nat.le_refl _⟩, ⟨by (with_reducible repeat (first | refine blk_drewN ?_ _ | refine blk_drew ?_ | refine blk_alloc ?_ _)); exact BK299.out⟩, ⟨by (with_reducible repeat (first | refine blk_drewN ?_ _ | refine blk_drew ?_ | refine blk_alloc ?_ _)); exact BK306.out⟩, ⟨by (with_reducible repeat (first | refine blk_drewN ?_ _ | refine blk_drew ?_ | refine blk_alloc ?_ _)); exact BK315.out⟩, ⟨by repeat (first | (with_reducible first | exact HB.out | apply below_alloc | apply pw_below_drewN | apply below_drew1 | refine below_set ?_ GE299.out | refine below_set ?_ GE306.out | refine below_set ?_ GE315.out) | exact HB.out)⟩⟩
                  · rw [if_neg c87] at H
                    have c87b0 : (t305 == 0) = false := beq_eq_false_iff_ne.mpr c87
                    have c87b1 : (t305 != 0) = true := bne_iff_ne.mpr c87
                    (first | rw [c87b0] | (simp only [i64_w, i32_w]; rw [c87b0]) | skip)
                    have H' := Aside0.mk H
                    clear H
                    go_wp2
                    go_meet
                    case rel => exact ⟨_, (true), (by first | rfl | (simp; done) | (simp [*]; done)), H', ⟨by have := HJ2.out; have := HK2.out; first | omega | exact Nat.le_refl _⟩, ⟨by (with_reducible repeat (first | refine blk_drewN ?_ _ | refine blk_drew ?_ | refine blk_alloc ?_ _)); refine blk_far ?_ NB299_315.out _; (with_reducible repeat (first | refine blk_drewN ?_ _ | refine blk_drew ?_ | refine blk_alloc ?_ _)); refine blk_far ?_ NB299_315.out _; (with_reducible repeat (first | refine blk_drewN ?_ _ | refine blk_drew ?_ | refine blk_alloc ?_ _)); refine blk_far ?_ NB299_315.out _; (with_reducible repeat (first | refine blk_drewN ?_ _ | refine blk_drew ?_ | refine blk_alloc ?_ _)); exact BK299.out⟩, ⟨by (with_reducible repeat (first | refine blk_drewN ?_ _ | refine blk_drew ?_ | refine blk_alloc ?_ _)); refine blk_far ?_ NB306_315.out _; (with_reducible repeat (first | refine blk_drewN ?_ _ | refine blk_drew ?_ | refine blk_alloc ?_ _)); refine blk_far ?_ NB306_315.out _; (with_reducible repeat (first | refine blk_drewN ?_ _ | refine blk_drew ?_ | refine blk_alloc ?_ _)); refine blk_far ?_ NB306_315.out _; (with_reducible repeat (first | refine blk_drewN ?_ _ | refine blk_drew ?_ | refine blk_alloc ?_ _)); exact BK306.out⟩, ⟨by (with_reducible repeat (first | refine blk_drewN ?_ _ | refine blk_drew ?_ | refine blk_alloc ?_ _)); refine blk_put (cs := #[.int .i64 t311, .int .i64 t312, .int .i64 0]) ?_ 2 _ rfl; (with_reducible repeat (first | refine blk_drewN ?_ _ | refine blk_drew ?_ | refine blk_alloc ?_ _)); refine blk_put (cs := #[.int .i64 t311, .int .i64 0, .int .i64 0]) ?_ 1 _ rfl; (with_reducible repeat (first | refine blk_drewN ?_ _ | refine blk_drew ?_ | refine blk_alloc ?_ _)); refine blk_put (cs := #[.int .i64 0, .int .i64 0, .int .i64 0]) ?_ 0 _ rfl; (with_reducible repeat (first | refine blk_drewN ?_ _ | refine blk_drew ?_ | refine blk_alloc ?_ _)); exact BK315.out⟩, ⟨by repeat (first | (with_reducible first | exact HB.out | apply below_alloc | apply pw_below_drewN | apply below_drew1 | refine below_set ?_ GE299.out | refine below_set ?_ GE306.out | refine below_set ?_ GE315.out) | exact HB.out)⟩⟩
                case rest =>
                  clear HC81
                  try clear c1
                  try clear c2
                  try clear p2
                  try clear c3
                  try clear c4
                  try clear c5
                  try clear c6
                  try clear p6
                  try clear c7
                  try clear c8
                  try clear c9
                  try clear c10
                  try clear c11
                  try clear c13
                  try clear c14
                  try clear c14b0
                  try clear c16
                  try clear c16b0
                  try clear c16b1
                  try clear c17
                  try clear c17b0
                  try clear c17b1
                  try clear c17b2
                  try clear c18
                  try clear c18b0
                  try clear c18b1
                  try clear c19
                  try clear c19b0
                  try clear c19b1
                  try clear c24
                  try clear c30
                  try clear c31
                  try clear c36
                  try clear c46
                  try clear c56
                  try clear p64
                  try clear c66
                  try clear c75
                  try clear c79
                  try clear c79b0
                  try clear c84
                  try clear c85
                  try clear c87
                  try clear c87b0
                  try clear c87b1
                  try clear c88
                  try clear c88b0
                  try clear c89
                  try clear c90
                  try clear c92
                  try clear c95
                  try clear c96
                  try clear c98
                  try clear hcz100_0
                  try clear hcz100_1
                  try clear hcz100_2
                  try clear hcz21_0
                  try clear hcz21_1
                  try clear hcz21_2
                  try clear hcz25_0
                  try clear hcz25_1
                  try clear hcz25_2
                  try clear hcz26_0
                  try clear hcz26_1
                  try clear hcz26_2
                  try clear hcz28_0
                  try clear hcz28_1
                  try clear hcz28_2
                  try clear hcz30_0
                  try clear hcz30_1
                  try clear hcz30_2
                  try clear hcz31_0
                  try clear hcz31_1
                  try clear hcz31_2
                  try clear hcz33_0
                  try clear hcz33_1
                  try clear hcz33_2
                  try clear hcz37_0
                  try clear hcz37_1
                  try clear hcz37_2
                  try clear hcz38_0
                  try clear hcz38_1
                  try clear hcz38_2
                  try clear hcz40_0
                  try clear hcz40_1
                  try clear hcz40_2
                  try clear hcz42_0
                  try clear hcz42_1
                  try clear hcz42_2
                  try clear hcz43_0
                  try clear hcz43_1
                  try clear hcz43_2
                  try clear hcz47_0
                  try clear hcz47_1
                  try clear hcz47_2
                  try clear hcz48_0
                  try clear hcz48_1
                  try clear hcz48_2
                  try clear hcz50_0
                  try clear hcz50_1
                  try clear hcz50_2
                  try clear hcz52_0
                  try clear hcz52_1
                  try clear hcz52_2
                  try clear hcz53_0
                  try clear hcz53_1
                  try clear hcz53_2
                  try clear hcz57_0
                  try clear hcz57_1
                  try clear hcz57_2
                  try clear hcz58_0
                  try clear hcz58_1
                  try clear hcz58_2
                  try clear hcz60_0
                  try clear hcz60_1
                  try clear hcz60_2
                  try clear hcz62_0
                  try clear hcz62_1
                  try clear hcz62_2
                  try clear hcz63_0
                  try clear hcz63_1
                  try clear hcz63_2
                  try clear hcz67_0
                  try clear hcz67_1
                  try clear hcz67_2
                  try clear hcz68_0
                  try clear hcz68_1
                  try clear hcz68_2
                  try clear hcz70_0
                  try clear hcz70_1
                  try clear hcz70_2
                  try clear hcz72_0
                  try clear hcz72_1
                  try clear hcz72_2
                  try clear hcz76_0
                  try clear hcz76_1
                  try clear hcz76_2
                  try clear hcz77_0
                  try clear hcz77_1
                  try clear hcz77_2
                  try clear hcz86_0
                  try clear hcz86_1
                  try clear hcz86_2
                  try clear hcz91_0
                  try clear hcz91_1
                  try clear hcz91_2
                  try clear hcz93_0
                  try clear hcz93_1
                  try clear hcz93_2
                  try clear hcz97_0
                  try clear hcz97_1
                  try clear hcz97_2
                  try clear hcz99_0
                  try clear hcz99_1
                  try clear hcz99_2
                  try clear hfz100_0
                  try clear hfz100_1
                  try clear hfz100_2
                  try clear hfz21_0
                  try clear hfz21_1
                  try clear hfz21_2
                  try clear hfz25_0
                  try clear hfz25_1
                  try clear hfz25_2
                  try clear hfz26_0
                  try clear hfz26_1
                  try clear hfz26_2
                  try clear hfz28_0
                  try clear hfz28_1
                  try clear hfz28_2
                  try clear hfz30_0
                  try clear hfz30_1
                  try clear hfz30_2
                  try clear hfz31_0
                  try clear hfz31_1
                  try clear hfz31_2
                  try clear hfz33_0
                  try clear hfz33_1
                  try clear hfz33_2
                  try clear hfz37_0
                  try clear hfz37_1
                  try clear hfz37_2
                  try clear hfz38_0
                  try clear hfz38_1
                  try clear hfz38_2
                  try clear hfz40_0
                  try clear hfz40_1
                  try clear hfz40_2
                  try clear hfz42_0
                  try clear hfz42_1
                  try clear hfz42_2
                  try clear hfz43_0
                  try clear hfz43_1
                  try clear hfz43_2
                  try clear hfz47_0
                  try clear hfz47_1
                  try clear hfz47_2
                  try clear hfz48_0
                  try clear hfz48_1
                  try clear hfz48_2
                  try clear hfz50_0
                  try clear hfz50_1
                  try clear hfz50_2
                  try clear hfz52_0
                  try clear hfz52_1
                  try clear hfz52_2
                  try clear hfz53_0
                  try clear hfz53_1
                  try clear hfz53_2
                  try clear hfz57_0
                  try clear hfz57_1
                  try clear hfz57_2
                  try clear hfz58_0
                  try clear hfz58_1
                  try clear hfz58_2
                  try clear hfz60_0
                  try clear hfz60_1
                  try clear hfz60_2
                  try clear hfz62_0
                  try clear hfz62_1
                  try clear hfz62_2
                  try clear hfz63_0
                  try clear hfz63_1
                  try clear hfz63_2
                  try clear hfz67_0
                  try clear hfz67_1
                  try clear hfz67_2
                  try clear hfz68_0
                  try clear hfz68_1
                  try clear hfz68_2
                  try clear hfz70_0
                  try clear hfz70_1
                  try clear hfz70_2
                  try clear hfz72_0
                  try clear hfz72_1
                  try clear hfz72_2
                  try clear hfz76_0
                  try clear hfz76_1
                  try clear hfz76_2
                  try clear hfz77_0
                  try clear hfz77_1
                  try clear hfz77_2
                  try clear hfz86_0
                  try clear hfz86_1
                  try clear hfz86_2
                  try clear hfz91_0
                  try clear hfz91_1
                  try clear hfz91_2
                  try clear hfz93_0
                  try clear hfz93_1
                  try clear hfz93_2
                  try clear hfz97_0
                  try clear hfz97_1
                  try clear hfz97_2
                  try clear hfz99_0
                  try clear hfz99_1
                  try clear hfz99_2
                  try clear p2
                  obtain ⟨kq, x86_80, rfl, HA, HJ80, BK299, BK306, BK315, HB⟩ := hcut
                  cases kq with
                  | zero => exact absurd HA.out (by simp [stipendlaw03_DateWorks.j2])
                  | succ kj80 =>
                    have H := HA.out
                    clear HA
                    simp only [stipendlaw03_DateWorks.j2] at H
                    by_cases c102 : x86_80 = true
                    · subst c102
                      have H1 : (some false) = some r := by rw [if_pos rfl] at H; exact H
                      clear H
                      have H := H1
                      clear H1
                      obtain rfl := Option.some.inj H
                      go_wp2
                      go_ret
                      exact ⟨by first | rfl | (simp [errW_none, errW_some] <;> rfl) | (simp [*, errW_none, errW_some] <;> rfl), by repeat (first | (with_reducible first | exact HB.out | apply below_alloc | apply pw_below_drewN | apply below_drew1 | refine below_set ?_ GE299.out | refine below_set ?_ GE306.out | refine below_set ?_ GE315.out) | exact HB.out)⟩
                    · replace c102 := Bool.eq_false_iff.mpr c102
                      subst c102
                      have H1 : (if a1 < (-400) then (stipendlaw03_DateWorks.j3 kj80 a1 t307 true a0_0 a0_1 a0_2) else (stipendlaw03_DateWorks.j3 kj80 a1 t307 (decide (a1 > 400)) a0_0 a0_1 a0_2)) = some r := by rw [if_neg (show ¬ (false = true) by decide)] at H; exact H
                      clear H
                      have H := H1
                      clear H1
                      have HC103 := Aside0.mk H
                      clear H
                      go_upto_region 14 with (fail)
                      go_cut [92] (fun v92 wc => ∃ (kq : Nat) (x92_102 : Bool), v92 = .bool x92_102 ∧ Aside0 (stipendlaw03_DateWorks.j3 kq a1 t307 x92_102 a0_0 a0_1 a0_2 = some r) ∧ Aside0 (kq ≤ kj80) ∧ Aside0 (wc.heap[gb299]? = some (.cells #[.int .i64 a0_0, .int .i64 a0_1, .int .i64 a0_2] 23 (0, 0))) ∧ Aside0 (wc.heap[gb306]? = some (.cells #[.int .i64 t302, .int .i64 t303, .int .i64 t304] 23 (0, 0))) ∧ Aside0 (wc.heap[gb315]? = some (.cells #[.int .i64 t311, .int .i64 t312, .int .i64 t313] 23 (0, 0))) ∧ Aside0 (Below w.heap.size w wc))
                      case first =>
                        have H := HC103.out
                        clear HC103
                        by_cases c104 : a1 < (-400)
                        · rw [if_pos c104] at H
                          have c104b0 : decide (a1 < (-400)) = true := decide_eq_true c104
                          clear c104
                          (first | rw [c104b0] | (simp only [i64_w, i32_w]; rw [c104b0]) | skip)
                          have H' := Aside0.mk H
                          clear H
                          go_wp2
                          go_meet
                          case rel => exact ⟨_, (true), (by first | rfl | (simp; done) | (simp [*]; done)), H', ⟨by have := HJ2.out; have := HK2.out; have := HJ80.out; first | omega | exact Nat.le_refl _⟩, ⟨by (with_reducible repeat (first | refine blk_drewN ?_ _ | refine blk_drew ?_ | refine blk_alloc ?_ _)); exact BK299.out⟩, ⟨by (with_reducible repeat (first | refine blk_drewN ?_ _ | refine blk_drew ?_ | refine blk_alloc ?_ _)); exact BK306.out⟩, ⟨by (with_reducible repeat (first | refine blk_drewN ?_ _ | refine blk_drew ?_ | refine blk_alloc ?_ _)); exact BK315.out⟩, ⟨by repeat (first | (with_reducible first | exact HB.out | apply below_alloc | apply pw_below_drewN | apply below_drew1 | refine below_set ?_ GE299.out | refine below_set ?_ GE306.out | refine below_set ?_ GE315.out) | exact HB.out)⟩⟩
                        · rw [if_neg c104] at H
                          have c104b0 : decide (a1 < (-400)) = false := decide_eq_false c104
                          clear c104
                          (first | rw [c104b0] | (simp only [i64_w, i32_w]; rw [c104b0]) | skip)
                          have H' := Aside0.mk H
                          clear H
                          go_wp2
                          go_meet
                          case rel => exact ⟨_, (decide (a1 > 400)), (by first | rfl | (simp; done) | (simp [*]; done)), H', ⟨by have := HJ2.out; have := HK2.out; have := HJ80.out; first | omega | exact Nat.le_refl _⟩, ⟨by (with_reducible repeat (first | refine blk_drewN ?_ _ | refine blk_drew ?_ | refine blk_alloc ?_ _)); exact BK299.out⟩, ⟨by (with_reducible repeat (first | refine blk_drewN ?_ _ | refine blk_drew ?_ | refine blk_alloc ?_ _)); exact BK306.out⟩, ⟨by (with_reducible repeat (first | refine blk_drewN ?_ _ | refine blk_drew ?_ | refine blk_alloc ?_ _)); exact BK315.out⟩, ⟨by repeat (first | (with_reducible first | exact HB.out | apply below_alloc | apply pw_below_drewN | apply below_drew1 | refine below_set ?_ GE299.out | refine below_set ?_ GE306.out | refine below_set ?_ GE315.out) | exact HB.out)⟩⟩
                      case rest =>
                        clear HC103
                        try clear c1
                        try clear c2
                        try clear p2
                        try clear c3
                        try clear c4
                        try clear c5
                        try clear c6
                        try clear p6
                        try clear c7
                        try clear c8
                        try clear c9
                        try clear c10
                        try clear c11
                        try clear c13
                        try clear c14
                        try clear c14b0
                        try clear c16
                        try clear c16b0
                        try clear c16b1
                        try clear c17
                        try clear c17b0
                        try clear c17b1
                        try clear c17b2
                        try clear c18
                        try clear c18b0
                        try clear c18b1
                        try clear c19
                        try clear c19b0
                        try clear c19b1
                        try clear c24
                        try clear c30
                        try clear c31
                        try clear c36
                        try clear c46
                        try clear c56
                        try clear p64
                        try clear c66
                        try clear c75
                        try clear c79
                        try clear c79b0
                        try clear c84
                        try clear c85
                        try clear c87
                        try clear c87b0
                        try clear c87b1
                        try clear c88
                        try clear c88b0
                        try clear c89
                        try clear c90
                        try clear c92
                        try clear c95
                        try clear c96
                        try clear c98
                        try clear c102
                        try clear c104
                        try clear c104b0
                        try clear hcz100_0
                        try clear hcz100_1
                        try clear hcz100_2
                        try clear hcz21_0
                        try clear hcz21_1
                        try clear hcz21_2
                        try clear hcz25_0
                        try clear hcz25_1
                        try clear hcz25_2
                        try clear hcz26_0
                        try clear hcz26_1
                        try clear hcz26_2
                        try clear hcz28_0
                        try clear hcz28_1
                        try clear hcz28_2
                        try clear hcz30_0
                        try clear hcz30_1
                        try clear hcz30_2
                        try clear hcz31_0
                        try clear hcz31_1
                        try clear hcz31_2
                        try clear hcz33_0
                        try clear hcz33_1
                        try clear hcz33_2
                        try clear hcz37_0
                        try clear hcz37_1
                        try clear hcz37_2
                        try clear hcz38_0
                        try clear hcz38_1
                        try clear hcz38_2
                        try clear hcz40_0
                        try clear hcz40_1
                        try clear hcz40_2
                        try clear hcz42_0
                        try clear hcz42_1
                        try clear hcz42_2
                        try clear hcz43_0
                        try clear hcz43_1
                        try clear hcz43_2
                        try clear hcz47_0
                        try clear hcz47_1
                        try clear hcz47_2
                        try clear hcz48_0
                        try clear hcz48_1
                        try clear hcz48_2
                        try clear hcz50_0
                        try clear hcz50_1
                        try clear hcz50_2
                        try clear hcz52_0
                        try clear hcz52_1
                        try clear hcz52_2
                        try clear hcz53_0
                        try clear hcz53_1
                        try clear hcz53_2
                        try clear hcz57_0
                        try clear hcz57_1
                        try clear hcz57_2
                        try clear hcz58_0
                        try clear hcz58_1
                        try clear hcz58_2
                        try clear hcz60_0
                        try clear hcz60_1
                        try clear hcz60_2
                        try clear hcz62_0
                        try clear hcz62_1
                        try clear hcz62_2
                        try clear hcz63_0
                        try clear hcz63_1
                        try clear hcz63_2
                        try clear hcz67_0
                        try clear hcz67_1
                        try clear hcz67_2
                        try clear hcz68_0
                        try clear hcz68_1
                        try clear hcz68_2
                        try clear hcz70_0
                        try clear hcz70_1
                        try clear hcz70_2
                        try clear hcz72_0
                        try clear hcz72_1
                        try clear hcz72_2
                        try clear hcz76_0
                        try clear hcz76_1
                        try clear hcz76_2
                        try clear hcz77_0
                        try clear hcz77_1
                        try clear hcz77_2
                        try clear hcz86_0
                        try clear hcz86_1
                        try clear hcz86_2
                        try clear hcz91_0
                        try clear hcz91_1
                        try clear hcz91_2
                        try clear hcz93_0
                        try clear hcz93_1
                        try clear hcz93_2
                        try clear hcz97_0
                        try clear hcz97_1
                        try clear hcz97_2
                        try clear hcz99_0
                        try clear hcz99_1
                        try clear hcz99_2
                        try clear hfz100_0
                        try clear hfz100_1
                        try clear hfz100_2
                        try clear hfz21_0
                        try clear hfz21_1
                        try clear hfz21_2
                        try clear hfz25_0
                        try clear hfz25_1
                        try clear hfz25_2
                        try clear hfz26_0
                        try clear hfz26_1
                        try clear hfz26_2
                        try clear hfz28_0
                        try clear hfz28_1
                        try clear hfz28_2
                        try clear hfz30_0
                        try clear hfz30_1
                        try clear hfz30_2
                        try clear hfz31_0
                        try clear hfz31_1
                        try clear hfz31_2
                        try clear hfz33_0
                        try clear hfz33_1
                        try clear hfz33_2
                        try clear hfz37_0
                        try clear hfz37_1
                        try clear hfz37_2
                        try clear hfz38_0
                        try clear hfz38_1
                        try clear hfz38_2
                        try clear hfz40_0
                        try clear hfz40_1
                        try clear hfz40_2
                        try clear hfz42_0
                        try clear hfz42_1
                        try clear hfz42_2
                        try clear hfz43_0
                        try clear hfz43_1
                        try clear hfz43_2
                        try clear hfz47_0
                        try clear hfz47_1
                        try clear hfz47_2
                        try clear hfz48_0
                        try clear hfz48_1
                        try clear hfz48_2
                        try clear hfz50_0
                        try clear hfz50_1
                        try clear hfz50_2
                        try clear hfz52_0
                        try clear hfz52_1
                        try clear hfz52_2
                        try clear hfz53_0
                        try clear hfz53_1
                        try clear hfz53_2
                        try clear hfz57_0
                        try clear hfz57_1
                        try clear hfz57_2
                        try clear hfz58_0
                        try clear hfz58_1
                        try clear hfz58_2
                        try clear hfz60_0
                        try clear hfz60_1
                        try clear hfz60_2
                        try clear hfz62_0
                        try clear hfz62_1
                        try clear hfz62_2
                        try clear hfz63_0
                        try clear hfz63_1
                        try clear hfz63_2
                        try clear hfz67_0
                        try clear hfz67_1
                        try clear hfz67_2
                        try clear hfz68_0
                        try clear hfz68_1
                        try clear hfz68_2
                        try clear hfz70_0
                        try clear hfz70_1
                        try clear hfz70_2
                        try clear hfz72_0
                        try clear hfz72_1
                        try clear hfz72_2
                        try clear hfz76_0
                        try clear hfz76_1
                        try clear hfz76_2
                        try clear hfz77_0
                        try clear hfz77_1
                        try clear hfz77_2
                        try clear hfz86_0
                        try clear hfz86_1
                        try clear hfz86_2
                        try clear hfz91_0
                        try clear hfz91_1
                        try clear hfz91_2
                        try clear hfz93_0
                        try clear hfz93_1
                        try clear hfz93_2
                        try clear hfz97_0
                        try clear hfz97_1
                        try clear hfz97_2
                        try clear hfz99_0
                        try clear hfz99_1
                        try clear hfz99_2
                        try clear p2
                        try clear p6
                        try clear p64
                        obtain ⟨kq, x92_102, rfl, HA, HJ102, BK299, BK306, BK315, HB⟩ := hcut
                        cases kq with
                        | zero => exact absurd HA.out (by simp [stipendlaw03_DateWorks.j3])
                        | succ kj102 =>
                          have H := HA.out
                          clear HA
                          simp only [stipendlaw03_DateWorks.j3] at H
                          by_cases c105 : x92_102 = true
                          · subst c105
                            have H1 : (some true) = some r := by rw [if_pos rfl] at H; exact H
                            clear H
                            have H := H1
                            clear H1
                            obtain rfl := Option.some.inj H
                            go_wp2
                            go_ret
                            exact ⟨by first | rfl | (simp [errW_none, errW_some] <;> rfl) | (simp [*, errW_none, errW_some] <;> rfl), by repeat (first | (with_reducible first | exact HB.out | apply below_alloc | apply pw_below_drewN | apply below_drew1 | refine below_set ?_ GE299.out | refine below_set ?_ GE306.out | refine below_set ?_ GE315.out) | exact HB.out)⟩
                          · replace c105 := Bool.eq_false_iff.mpr c105
                            subst c105
                            have H1 : ((stipendref03_Of.f kj102 (wrap64 (t307 + a1))).bind fun bt317 => (if bt317.2.2.2 = true then (stipendlaw03_DateWorks.l1 kj102 a1 t307 0 t307 a0_0 a0_1 a0_2 bt317.1 bt317.2.1 bt317.2.2.1) else (some true))) = some r := by rw [if_neg (show ¬ (false = true) by decide)] at H; exact H
                            clear H
                            have H := H1
                            clear H1
                            replace H := Option.bind_eq_some_iff.mp H
                            obtain ⟨⟨t317, t318, t319, t320⟩, A1060, H⟩ := H
                            replace H : (if t320 = true then (stipendlaw03_DateWorks.l1 kj102 a1 t307 0 t307 a0_0 a0_1 a0_2 t317 t318 t319) else (some true)) = some r := H
                            have A106 := Aside0.mk A1060
                            clear A1060
                            by_cases c107 : t320 = true
                            · subst c107
                              have H1 : (stipendlaw03_DateWorks.l1 kj102 a1 t307 0 t307 a0_0 a0_1 a0_2 t317 t318 t319) = some r := by rw [if_pos rfl] at H; exact H
                              clear H
                              have H := H1
                              clear H1
                              have H' := Aside0.mk H
                              clear H
                              go_wp2_with (first | ((with_reducible refine gate_callee (f := 19) rfl ?_); refine goesL_ (some 97) rfl rfl Try.func19 (by kernel_rfl) rfl #[.int .i64 (wrap64 (t307 + a1))] rfl (by (try simp only [List.map_toArray, List.map_cons, List.map_nil]); first | done | rfl | (simp only [List.length_drop, List.length_take]; rfl)) ?_; (with_reducible refine (stipendref03_Of.calls kj102 (wrap64 (t307 + a1)) t317 t318 t319 true _ A106.out).mono ?_); rintro e w108 ⟨rfl, hb⟩; refine ⟨_, rfl, ?_⟩; have n0_ := Aside0.mk (blk_below (g := gb299) (o := .cells #[.int .i64 a0_0, .int .i64 a0_1, .int .i64 a0_2] 23 (0, 0)) (by (with_reducible repeat (first | refine blk_drewN ?_ _ | refine blk_drew ?_ | refine blk_alloc ?_ _)); exact BK299.out) hb); have n1_ := Aside0.mk (blk_below (g := gb306) (o := .cells #[.int .i64 t302, .int .i64 t303, .int .i64 t304] 23 (0, 0)) (by (with_reducible repeat (first | refine blk_drewN ?_ _ | refine blk_drew ?_ | refine blk_alloc ?_ _)); exact BK306.out) hb); have n2_ := Aside0.mk (blk_below (g := gb315) (o := .cells #[.int .i64 t311, .int .i64 t312, .int .i64 t313] 23 (0, 0)) (by (with_reducible repeat (first | refine blk_drewN ?_ _ | refine blk_drew ?_ | refine blk_alloc ?_ _)); exact BK315.out) hb); have n3_ := Aside0.mk (below_step (by repeat (first | (with_reducible first | exact HB.out | apply below_alloc | apply pw_below_drewN | apply below_drew1 | refine below_set ?_ GE299.out | refine below_set ?_ GE306.out | refine below_set ?_ GE315.out) | exact HB.out)) hb); clear BK299; clear BK306; clear BK315; clear HB; have BK299 := n0_; have BK306 := n1_; have BK315 := n2_; have HB := n3_; clear n0_ n1_ n2_ n3_; (try clear hb); (try clear hb2); (try clear hk); (try clear hi)) | ((with_reducible refine gate_dst (N := 13) rfl ?_); refine box_event ?hg (N := 13) ?hd (cs := #[.int .i64 0, .int .i64 0, .int .i64 0]) (t := 23) ?hr ?_; (case hd => rfl); (case hg => rfl); (case hr => first | (go_simp; done) | (go_simp; rfl)); intro gb321 hg w109 hbox hb; have n0_ := Aside0.mk (blk_below (g := gb299) (o := .cells #[.int .i64 a0_0, .int .i64 a0_1, .int .i64 a0_2] 23 (0, 0)) (by (with_reducible repeat (first | refine blk_drewN ?_ _ | refine blk_drew ?_ | refine blk_alloc ?_ _)); exact BK299.out) hb); have n1_ := Aside0.mk (blk_below (g := gb306) (o := .cells #[.int .i64 t302, .int .i64 t303, .int .i64 t304] 23 (0, 0)) (by (with_reducible repeat (first | refine blk_drewN ?_ _ | refine blk_drew ?_ | refine blk_alloc ?_ _)); exact BK306.out) hb); have n2_ := Aside0.mk (blk_below (g := gb315) (o := .cells #[.int .i64 t311, .int .i64 t312, .int .i64 t313] 23 (0, 0)) (by (with_reducible repeat (first | refine blk_drewN ?_ _ | refine blk_drew ?_ | refine blk_alloc ?_ _)); exact BK315.out) hb); have n3_ := Aside0.mk (below_step (by repeat (first | (with_reducible first | exact HB.out | apply below_alloc | apply pw_below_drewN | apply below_drew1 | refine below_set ?_ GE299.out | refine below_set ?_ GE306.out | refine below_set ?_ GE315.out) | exact HB.out)) hb); have n4_ := Aside0.mk (hbox); have n5_ := Aside0.mk ((by rw [hg]; exact (below_size (by repeat (first | (with_reducible first | exact HB.out | apply below_alloc | apply pw_below_drewN | apply below_drew1 | refine below_set ?_ GE299.out | refine below_set ?_ GE306.out | refine below_set ?_ GE315.out) | exact HB.out))) : w.heap.size ≤ gb321)); have n6_ := Aside0.mk ((by rw [hg]; exact (below_size (by repeat (first | (with_reducible first | exact HB.out | apply below_alloc | apply pw_below_drewN | apply below_drew1 | refine below_set ?_ GE299.out | refine below_set ?_ GE306.out | refine below_set ?_ GE315.out) | exact HB.out))) : w.heap.size ≤ gb321)); have n7_ := Aside0.mk ((by rw [hg]; exact Nat.ne_of_lt (blk_lt (g := gb299) (o := .cells #[.int .i64 a0_0, .int .i64 a0_1, .int .i64 a0_2] 23 (0, 0)) (by (with_reducible repeat (first | refine blk_drewN ?_ _ | refine blk_drew ?_ | refine blk_alloc ?_ _)); exact BK299.out)) : gb299 ≠ gb321)); have n8_ := Aside0.mk ((by rw [hg]; exact Nat.ne_of_gt (blk_lt (g := gb299) (o := .cells #[.int .i64 a0_0, .int .i64 a0_1, .int .i64 a0_2] 23 (0, 0)) (by (with_reducible repeat (first | refine blk_drewN ?_ _ | refine blk_drew ?_ | refine blk_alloc ?_ _)); exact BK299.out)) : gb321 ≠ gb299)); have n9_ := Aside0.mk ((by rw [hg]; exact Nat.ne_of_lt (blk_lt (g := gb306) (o := .cells #[.int .i64 t302, .int .i64 t303, .int .i64 t304] 23 (0, 0)) (by (with_reducible repeat (first | refine blk_drewN ?_ _ | refine blk_drew ?_ | refine blk_alloc ?_ _)); exact BK306.out)) : gb306 ≠ gb321)); have n10_ := Aside0.mk ((by rw [hg]; exact Nat.ne_of_gt (blk_lt (g := gb306) (o := .cells #[.int .i64 t302, .int .i64 t303, .int .i64 t304] 23 (0, 0)) (by (with_reducible repeat (first | refine blk_drewN ?_ _ | refine blk_drew ?_ | refine blk_alloc ?_ _)); exact BK306.out)) : gb321 ≠ gb306)); have n11_ := Aside0.mk ((by rw [hg]; exact Nat.ne_of_lt (blk_lt (g := gb315) (o := .cells #[.int .i64 t311, .int .i64 t312, .int .i64 t313] 23 (0, 0)) (by (with_reducible repeat (first | refine blk_drewN ?_ _ | refine blk_drew ?_ | refine blk_alloc ?_ _)); exact BK315.out)) : gb315 ≠ gb321)); have n12_ := Aside0.mk ((by rw [hg]; exact Nat.ne_of_gt (blk_lt (g := gb315) (o := .cells #[.int .i64 t311, .int .i64 t312, .int .i64 t313] 23 (0, 0)) (by (with_reducible repeat (first | refine blk_drewN ?_ _ | refine blk_drew ?_ | refine blk_alloc ?_ _)); exact BK315.out)) : gb321 ≠ gb315)); clear BK299; clear BK306; clear BK315; clear HB; have BK299 := n0_; have BK306 := n1_; have BK315 := n2_; have HB := n3_; have BK321 := n4_; have GW321 := n5_; have GE321 := n6_; have NB299_321 := n7_; have NB321_299 := n8_; have NB306_321 := n9_; have NB321_306 := n10_; have NB315_321 := n11_; have NB321_315 := n12_; clear n0_ n1_ n2_ n3_ n4_ n5_ n6_ n7_ n8_ n9_ n10_ n11_ n12_; clear hb hbox hg; have hnb110 := NB321_299.out; have hnc110 := NB299_321.out; have hnb111 := NB321_306.out; have hnc111 := NB306_321.out; have hnb112 := NB321_315.out; have hnc112 := NB315_321.out; have hcz113_0 : w109.cell? ⟨gb321, 0, none⟩ = some (.int .i64 0) := (blk_cell BK321.out 0).trans rfl; have hcz113_1 : w109.cell? ⟨gb321, 1, none⟩ = some (.int .i64 0) := (blk_cell BK321.out 1).trans rfl; have hcz113_2 : w109.cell? ⟨gb321, 2, none⟩ = some (.int .i64 0) := (blk_cell BK321.out 2).trans rfl; have hfz113_0 := blk_frozen BK321.out 0; have hfz113_1 := blk_frozen BK321.out 1; have hfz113_2 := blk_frozen BK321.out 2))
                              go_loopg [15, 16] kj102 (fun kq v15 v16 w' => ∃ (x15_5 : Int) (x16_5 : Int), v15 = .int .i64 x15_5 ∧ v16 = .int .i64 x16_5 ∧ Aside0 (stipendlaw03_DateWorks.l1 kq a1 t307 x15_5 x16_5 a0_0 a0_1 a0_2 t317 t318 t319 = some r) ∧ Aside0 (kq ≤ kj102) ∧ Aside0 (w'.heap[gb299]? = some (.cells #[.int .i64 a0_0, .int .i64 a0_1, .int .i64 a0_2] 23 (0, 0))) ∧ Aside0 (w'.heap[gb306]? = some (.cells #[.int .i64 t302, .int .i64 t303, .int .i64 t304] 23 (0, 0))) ∧ Aside0 (w'.heap[gb315]? = some (.cells #[.int .i64 t311, .int .i64 t312, .int .i64 t313] 23 (0, 0))) ∧ Aside0 (w'.heap[gb321]? = some (.cells #[.int .i64 t317, .int .i64 t318, .int .i64 t319] 23 (0, 0))) ∧ Aside0 (Below w.heap.size w w'))
                              case atStart => exact ⟨(0), (t307), (by first | rfl | (simp; done) | (simp [*]; done)), (by first | rfl | (simp; done) | (simp [*]; done)), H', ⟨Nat.le_refl _⟩, ⟨by (with_reducible repeat (first | refine blk_drewN ?_ _ | refine blk_drew ?_ | refine blk_alloc ?_ _)); refine blk_far ?_ NB299_321.out _; (with_reducible repeat (first | refine blk_drewN ?_ _ | refine blk_drew ?_ | refine blk_alloc ?_ _)); refine blk_far ?_ NB299_321.out _; (with_reducible repeat (first | refine blk_drewN ?_ _ | refine blk_drew ?_ | refine blk_alloc ?_ _)); refine blk_far ?_ NB299_321.out _; (with_reducible repeat (first | refine blk_drewN ?_ _ | refine blk_drew ?_ | refine blk_alloc ?_ _)); exact BK299.out⟩, ⟨by (with_reducible repeat (first | refine blk_drewN ?_ _ | refine blk_drew ?_ | refine blk_alloc ?_ _)); refine blk_far ?_ NB306_321.out _; (with_reducible repeat (first | refine blk_drewN ?_ _ | refine blk_drew ?_ | refine blk_alloc ?_ _)); refine blk_far ?_ NB306_321.out _; (with_reducible repeat (first | refine blk_drewN ?_ _ | refine blk_drew ?_ | refine blk_alloc ?_ _)); refine blk_far ?_ NB306_321.out _; (with_reducible repeat (first | refine blk_drewN ?_ _ | refine blk_drew ?_ | refine blk_alloc ?_ _)); exact BK306.out⟩, ⟨by (with_reducible repeat (first | refine blk_drewN ?_ _ | refine blk_drew ?_ | refine blk_alloc ?_ _)); refine blk_far ?_ NB315_321.out _; (with_reducible repeat (first | refine blk_drewN ?_ _ | refine blk_drew ?_ | refine blk_alloc ?_ _)); refine blk_far ?_ NB315_321.out _; (with_reducible repeat (first | refine blk_drewN ?_ _ | refine blk_drew ?_ | refine blk_alloc ?_ _)); refine blk_far ?_ NB315_321.out _; (with_reducible repeat (first | refine blk_drewN ?_ _ | refine blk_drew ?_ | refine blk_alloc ?_ _)); exact BK315.out⟩, ⟨by (with_reducible repeat (first | refine blk_drewN ?_ _ | refine blk_drew ?_ | refine blk_alloc ?_ _)); refine blk_put (cs := #[.int .i64 t317, .int .i64 t318, .int .i64 0]) ?_ 2 _ rfl; (with_reducible repeat (first | refine blk_drewN ?_ _ | refine blk_drew ?_ | refine blk_alloc ?_ _)); refine blk_put (cs := #[.int .i64 t317, .int .i64 0, .int .i64 0]) ?_ 1 _ rfl; (with_reducible repeat (first | refine blk_drewN ?_ _ | refine blk_drew ?_ | refine blk_alloc ?_ _)); refine blk_put (cs := #[.int .i64 0, .int .i64 0, .int .i64 0]) ?_ 0 _ rfl; (with_reducible repeat (first | refine blk_drewN ?_ _ | refine blk_drew ?_ | refine blk_alloc ?_ _)); exact BK321.out⟩, ⟨by repeat (first | (with_reducible first | exact HB.out | apply below_alloc | apply pw_below_drewN | apply below_drew1 | refine below_set ?_ GE299.out | refine below_set ?_ GE306.out | refine below_set ?_ GE315.out | refine below_set ?_ GE321.out) | exact HB.out)⟩⟩
                              case round =>
                                clear H'
                                try clear c1
                                try clear c2
                                try clear p2
                                try clear c3
                                try clear c4
                                try clear c5
                                try clear c6
                                try clear p6
                                try clear c7
                                try clear c8
                                try clear c9
                                try clear c10
                                try clear c11
                                try clear c13
                                try clear c14
                                try clear c14b0
                                try clear c16
                                try clear c16b0
                                try clear c16b1
                                try clear c17
                                try clear c17b0
                                try clear c17b1
                                try clear c17b2
                                try clear c18
                                try clear c18b0
                                try clear c18b1
                                try clear c19
                                try clear c19b0
                                try clear c19b1
                                try clear c24
                                try clear c30
                                try clear c31
                                try clear c36
                                try clear c46
                                try clear c56
                                try clear p64
                                try clear c66
                                try clear c75
                                try clear c79
                                try clear c79b0
                                try clear c84
                                try clear c85
                                try clear c87
                                try clear c87b0
                                try clear c87b1
                                try clear c88
                                try clear c88b0
                                try clear c89
                                try clear c90
                                try clear c92
                                try clear c95
                                try clear c96
                                try clear c98
                                try clear c102
                                try clear c104
                                try clear c104b0
                                try clear c105
                                try clear c107
                                try clear c110
                                try clear c111
                                try clear c112
                                try clear hcz100_0
                                try clear hcz100_1
                                try clear hcz100_2
                                try clear hcz113_0
                                try clear hcz113_1
                                try clear hcz113_2
                                try clear hcz21_0
                                try clear hcz21_1
                                try clear hcz21_2
                                try clear hcz25_0
                                try clear hcz25_1
                                try clear hcz25_2
                                try clear hcz26_0
                                try clear hcz26_1
                                try clear hcz26_2
                                try clear hcz28_0
                                try clear hcz28_1
                                try clear hcz28_2
                                try clear hcz30_0
                                try clear hcz30_1
                                try clear hcz30_2
                                try clear hcz31_0
                                try clear hcz31_1
                                try clear hcz31_2
                                try clear hcz33_0
                                try clear hcz33_1
                                try clear hcz33_2
                                try clear hcz37_0
                                try clear hcz37_1
                                try clear hcz37_2
                                try clear hcz38_0
                                try clear hcz38_1
                                try clear hcz38_2
                                try clear hcz40_0
                                try clear hcz40_1
                                try clear hcz40_2
                                try clear hcz42_0
                                try clear hcz42_1
                                try clear hcz42_2
                                try clear hcz43_0
                                try clear hcz43_1
                                try clear hcz43_2
                                try clear hcz47_0
                                try clear hcz47_1
                                try clear hcz47_2
                                try clear hcz48_0
                                try clear hcz48_1
                                try clear hcz48_2
                                try clear hcz50_0
                                try clear hcz50_1
                                try clear hcz50_2
                                try clear hcz52_0
                                try clear hcz52_1
                                try clear hcz52_2
                                try clear hcz53_0
                                try clear hcz53_1
                                try clear hcz53_2
                                try clear hcz57_0
                                try clear hcz57_1
                                try clear hcz57_2
                                try clear hcz58_0
                                try clear hcz58_1
                                try clear hcz58_2
                                try clear hcz60_0
                                try clear hcz60_1
                                try clear hcz60_2
                                try clear hcz62_0
                                try clear hcz62_1
                                try clear hcz62_2
                                try clear hcz63_0
                                try clear hcz63_1
                                try clear hcz63_2
                                try clear hcz67_0
                                try clear hcz67_1
                                try clear hcz67_2
                                try clear hcz68_0
                                try clear hcz68_1
                                try clear hcz68_2
                                try clear hcz70_0
                                try clear hcz70_1
                                try clear hcz70_2
                                try clear hcz72_0
                                try clear hcz72_1
                                try clear hcz72_2
                                try clear hcz76_0
                                try clear hcz76_1
                                try clear hcz76_2
                                try clear hcz77_0
                                try clear hcz77_1
                                try clear hcz77_2
                                try clear hcz86_0
                                try clear hcz86_1
                                try clear hcz86_2
                                try clear hcz91_0
                                try clear hcz91_1
                                try clear hcz91_2
                                try clear hcz93_0
                                try clear hcz93_1
                                try clear hcz93_2
                                try clear hcz97_0
                                try clear hcz97_1
                                try clear hcz97_2
                                try clear hcz99_0
                                try clear hcz99_1
                                try clear hcz99_2
                                try clear hfz100_0
                                try clear hfz100_1
                                try clear hfz100_2
                                try clear hfz113_0
                                try clear hfz113_1
                                try clear hfz113_2
                                try clear hfz21_0
                                try clear hfz21_1
                                try clear hfz21_2
                                try clear hfz25_0
                                try clear hfz25_1
                                try clear hfz25_2
                                try clear hfz26_0
                                try clear hfz26_1
                                try clear hfz26_2
                                try clear hfz28_0
                                try clear hfz28_1
                                try clear hfz28_2
                                try clear hfz30_0
                                try clear hfz30_1
                                try clear hfz30_2
                                try clear hfz31_0
                                try clear hfz31_1
                                try clear hfz31_2
                                try clear hfz33_0
                                try clear hfz33_1
                                try clear hfz33_2
                                try clear hfz37_0
                                try clear hfz37_1
                                try clear hfz37_2
                                try clear hfz38_0
                                try clear hfz38_1
                                try clear hfz38_2
                                try clear hfz40_0
                                try clear hfz40_1
                                try clear hfz40_2
                                try clear hfz42_0
                                try clear hfz42_1
                                try clear hfz42_2
                                try clear hfz43_0
                                try clear hfz43_1
                                try clear hfz43_2
                                try clear hfz47_0
                                try clear hfz47_1
                                try clear hfz47_2
                                try clear hfz48_0
                                try clear hfz48_1
                                try clear hfz48_2
                                try clear hfz50_0
                                try clear hfz50_1
                                try clear hfz50_2
                                try clear hfz52_0
                                try clear hfz52_1
                                try clear hfz52_2
                                try clear hfz53_0
                                try clear hfz53_1
                                try clear hfz53_2
                                try clear hfz57_0
                                try clear hfz57_1
                                try clear hfz57_2
                                try clear hfz58_0
                                try clear hfz58_1
                                try clear hfz58_2
                                try clear hfz60_0
                                try clear hfz60_1
                                try clear hfz60_2
                                try clear hfz62_0
                                try clear hfz62_1
                                try clear hfz62_2
                                try clear hfz63_0
                                try clear hfz63_1
                                try clear hfz63_2
                                try clear hfz67_0
                                try clear hfz67_1
                                try clear hfz67_2
                                try clear hfz68_0
                                try clear hfz68_1
                                try clear hfz68_2
                                try clear hfz70_0
                                try clear hfz70_1
                                try clear hfz70_2
                                try clear hfz72_0
                                try clear hfz72_1
                                try clear hfz72_2
                                try clear hfz76_0
                                try clear hfz76_1
                                try clear hfz76_2
                                try clear hfz77_0
                                try clear hfz77_1
                                try clear hfz77_2
                                try clear hfz86_0
                                try clear hfz86_1
                                try clear hfz86_2
                                try clear hfz91_0
                                try clear hfz91_1
                                try clear hfz91_2
                                try clear hfz93_0
                                try clear hfz93_1
                                try clear hfz93_2
                                try clear hfz97_0
                                try clear hfz97_1
                                try clear hfz97_2
                                try clear hfz99_0
                                try clear hfz99_1
                                try clear hfz99_2
                                try clear p2
                                try clear p6
                                try clear p64
                                obtain ⟨x15_5, x16_5, rfl, rfl, HA, HK5, BK299, BK306, BK315, BK321, HB⟩ := hrel
                                cases gk with
                                | zero => exact absurd HA.out (by simp [stipendlaw03_DateWorks.l1])
                                | succ k5 =>
                                  have H := HA.out
                                  clear HA
                                  simp only [stipendlaw03_DateWorks.l1] at H
                                  by_cases c114 : x16_5 ≤ (wrap64 (t307 + a1))
                                  · rw [if_pos c114] at H
                                    have c114b0 : decide (x16_5 ≤ (wrap64 (t307 + a1))) = true := decide_eq_true c114
                                    clear c114
                                    by_cases c115 : (Int.tmod x16_5 7) < 5
                                    · rw [if_pos c115] at H
                                      have c115b0 : decide ((Int.tmod x16_5 7) < 5) = true := decide_eq_true c115
                                      clear c115
                                      have H' := Aside0.mk H
                                      clear H
                                      go_wp2
                                      go_roundg k5
                                      case measure => have := HJ2.out; have := HK2.out; have := HJ80.out; have := HJ102.out; have := HK5.out; omega
                                      case rel => exact ⟨(wrap64 (x15_5 + 1)), (wrap64 (x16_5 + 1)), (by first | rfl | (simp; done) | (simp [*]; done)), (by first | rfl | (simp; done) | (simp [*]; done)), H', ⟨by have := HJ2.out; have := HK2.out; have := HJ80.out; have := HJ102.out; have := HK5.out; omega⟩, ⟨by (with_reducible repeat (first | refine blk_drewN ?_ _ | refine blk_drew ?_ | refine blk_alloc ?_ _)); exact BK299.out⟩, ⟨by (with_reducible repeat (first | refine blk_drewN ?_ _ | refine blk_drew ?_ | refine blk_alloc ?_ _)); exact BK306.out⟩, ⟨by (with_reducible repeat (first | refine blk_drewN ?_ _ | refine blk_drew ?_ | refine blk_alloc ?_ _)); exact BK315.out⟩, ⟨by (with_reducible repeat (first | refine blk_drewN ?_ _ | refine blk_drew ?_ | refine blk_alloc ?_ _)); exact BK321.out⟩, ⟨by repeat (first | (with_reducible first | exact HB.out | apply below_alloc | apply pw_below_drewN | apply below_drew1 | refine below_set ?_ GE299.out | refine below_set ?_ GE306.out | refine below_set ?_ GE315.out | refine below_set ?_ GE321.out) | exact HB.out)⟩⟩
                                    · rw [if_neg c115] at H
                                      have c115b0 : decide ((Int.tmod x16_5 7) < 5) = false := decide_eq_false c115
                                      clear c115
                                      have H' := Aside0.mk H
                                      clear H
                                      go_wp2
                                      go_roundg k5
                                      case measure => have := HJ2.out; have := HK2.out; have := HJ80.out; have := HJ102.out; have := HK5.out; omega
                                      case rel => exact ⟨(x15_5), (wrap64 (x16_5 + 1)), (by first | rfl | (simp; done) | (simp [*]; done)), (by first | rfl | (simp; done) | (simp [*]; done)), H', ⟨by have := HJ2.out; have := HK2.out; have := HJ80.out; have := HJ102.out; have := HK5.out; omega⟩, ⟨by (with_reducible repeat (first | refine blk_drewN ?_ _ | refine blk_drew ?_ | refine blk_alloc ?_ _)); exact BK299.out⟩, ⟨by (with_reducible repeat (first | refine blk_drewN ?_ _ | refine blk_drew ?_ | refine blk_alloc ?_ _)); exact BK306.out⟩, ⟨by (with_reducible repeat (first | refine blk_drewN ?_ _ | refine blk_drew ?_ | refine blk_alloc ?_ _)); exact BK315.out⟩, ⟨by (with_reducible repeat (first | refine blk_drewN ?_ _ | refine blk_drew ?_ | refine blk_alloc ?_ _)); exact BK321.out⟩, ⟨by repeat (first | (with_reducible first | exact HB.out | apply below_alloc | apply pw_below_drewN | apply below_drew1 | refine below_set ?_ GE299.out | refine below_set ?_ GE306.out | refine below_set ?_ GE315.out | refine below_set ?_ GE321.out) | exact HB.out)⟩⟩
                                  · rw [if_neg c114] at H
                                    have c114b0 : decide (x16_5 ≤ (wrap64 (t307 + a1))) = false := decide_eq_false c114
                                    clear c114
                                    replace H := Option.bind_eq_some_iff.mp H
                                    obtain ⟨⟨t322, t323⟩, A1160, H⟩ := H
                                    replace H : (if t323 = 0 then (some (t322 == x15_5)) else (some false)) = some r := H
                                    have A116 := Aside0.mk A1160
                                    clear A1160
                                    by_cases c117 : t323 = 0
                                    · rw [if_pos c117] at H
                                      have c117b0 : (t323 == 0) = true := beq_iff_eq.mpr c117
                                      have c117b1 : (t323 != 0) = false := bne_eq_false_iff_eq.mpr c117
                                      clear c117
                                      obtain rfl := Option.some.inj H
                                      have hnb118 := NB299_306.out
                                      have hnc118 := NB306_299.out
                                      have hnb119 := NB299_315.out
                                      have hnc119 := NB315_299.out
                                      have hnb120 := NB299_321.out
                                      have hnc120 := NB321_299.out
                                      have hcz121_0 : wr.cell? ⟨gb299, 0, none⟩ = some (.int .i64 a0_0) := (blk_cell BK299.out 0).trans rfl
                                      have hcz121_1 : wr.cell? ⟨gb299, 1, none⟩ = some (.int .i64 a0_1) := (blk_cell BK299.out 1).trans rfl
                                      have hcz121_2 : wr.cell? ⟨gb299, 2, none⟩ = some (.int .i64 a0_2) := (blk_cell BK299.out 2).trans rfl
                                      have hfz121_0 := blk_frozen BK299.out 0
                                      have hfz121_1 := blk_frozen BK299.out 1
                                      have hfz121_2 := blk_frozen BK299.out 2
                                      have hnb122 := NB321_306.out
                                      have hnc122 := NB306_321.out
                                      have hnb123 := NB321_315.out
                                      have hnc123 := NB315_321.out
                                      have hcz124_0 : wr.cell? ⟨gb321, 0, none⟩ = some (.int .i64 t317) := (blk_cell BK321.out 0).trans rfl
                                      have hcz124_1 : wr.cell? ⟨gb321, 1, none⟩ = some (.int .i64 t318) := (blk_cell BK321.out 1).trans rfl
                                      have hcz124_2 : wr.cell? ⟨gb321, 2, none⟩ = some (.int .i64 t319) := (blk_cell BK321.out 2).trans rfl
                                      have hfz124_0 := blk_frozen BK321.out 0
                                      have hfz124_1 := blk_frozen BK321.out 1
                                      have hfz124_2 := blk_frozen BK321.out 2
                                      go_wp2_with (first | ((with_reducible refine gate_callee (f := 31) rfl ?_); refine goesL_ (some 118) rfl rfl Try.func31 (by kernel_rfl) rfl #[.agg #[.int .i64 a0_0, .int .i64 a0_1, .int .i64 a0_2], .agg #[.int .i64 t317, .int .i64 t318, .int .i64 t319]] rfl (by (try simp only [List.map_toArray, List.map_cons, List.map_nil]); first | done | rfl | (simp only [List.length_drop, List.length_take]; rfl)) ?_; (with_reducible refine (date_Workdays.calls k5 a0_0 a0_1 a0_2 t317 t318 t319 t322 t323 _ A116.out).mono ?_); rintro e w125 ⟨rfl, hb⟩; refine ⟨_, rfl, ?_⟩; have n0_ := Aside0.mk (blk_below (g := gb299) (o := .cells #[.int .i64 a0_0, .int .i64 a0_1, .int .i64 a0_2] 23 (0, 0)) (by (with_reducible repeat (first | refine blk_drewN ?_ _ | refine blk_drew ?_ | refine blk_alloc ?_ _)); exact BK299.out) hb); have n1_ := Aside0.mk (blk_below (g := gb306) (o := .cells #[.int .i64 t302, .int .i64 t303, .int .i64 t304] 23 (0, 0)) (by (with_reducible repeat (first | refine blk_drewN ?_ _ | refine blk_drew ?_ | refine blk_alloc ?_ _)); exact BK306.out) hb); have n2_ := Aside0.mk (blk_below (g := gb315) (o := .cells #[.int .i64 t311, .int .i64 t312, .int .i64 t313] 23 (0, 0)) (by (with_reducible repeat (first | refine blk_drewN ?_ _ | refine blk_drew ?_ | refine blk_alloc ?_ _)); exact BK315.out) hb); have n3_ := Aside0.mk (blk_below (g := gb321) (o := .cells #[.int .i64 t317, .int .i64 t318, .int .i64 t319] 23 (0, 0)) (by (with_reducible repeat (first | refine blk_drewN ?_ _ | refine blk_drew ?_ | refine blk_alloc ?_ _)); exact BK321.out) hb); have n4_ := Aside0.mk (below_step (by repeat (first | (with_reducible first | exact HB.out | apply below_alloc | apply pw_below_drewN | apply below_drew1 | refine below_set ?_ GE299.out | refine below_set ?_ GE306.out | refine below_set ?_ GE315.out | refine below_set ?_ GE321.out) | exact HB.out)) hb); clear BK299; clear BK306; clear BK315; clear BK321; clear HB; have BK299 := n0_; have BK306 := n1_; have BK315 := n2_; have BK321 := n3_; have HB := n4_; clear n0_ n1_ n2_ n3_ n4_; (try clear hb); (try clear hb2); (try clear hk); (try clear hi)))
                                      go_ret
                                      exact ⟨by first | rfl | (simp [errW_none, errW_some] <;> rfl) | (simp [*, errW_none, errW_some] <;> rfl), by repeat (first | (with_reducible first | exact HB.out | apply below_alloc | apply pw_below_drewN | apply below_drew1 | refine below_set ?_ GE299.out | refine below_set ?_ GE306.out | refine below_set ?_ GE315.out | refine below_set ?_ GE321.out) | exact HB.out)⟩
                                    · rw [if_neg c117] at H
                                      have c117b0 : (t323 == 0) = false := beq_eq_false_iff_ne.mpr c117
                                      have c117b1 : (t323 != 0) = true := bne_iff_ne.mpr c117
                                      obtain rfl := Option.some.inj H
                                      have hnb126 := NB299_306.out
                                      have hnc126 := NB306_299.out
                                      have hnb127 := NB299_315.out
                                      have hnc127 := NB315_299.out
                                      have hnb128 := NB299_321.out
                                      have hnc128 := NB321_299.out
                                      have hcz129_0 : wr.cell? ⟨gb299, 0, none⟩ = some (.int .i64 a0_0) := (blk_cell BK299.out 0).trans rfl
                                      have hcz129_1 : wr.cell? ⟨gb299, 1, none⟩ = some (.int .i64 a0_1) := (blk_cell BK299.out 1).trans rfl
                                      have hcz129_2 : wr.cell? ⟨gb299, 2, none⟩ = some (.int .i64 a0_2) := (blk_cell BK299.out 2).trans rfl
                                      have hfz129_0 := blk_frozen BK299.out 0
                                      have hfz129_1 := blk_frozen BK299.out 1
                                      have hfz129_2 := blk_frozen BK299.out 2
                                      have hnb130 := NB321_306.out
                                      have hnc130 := NB306_321.out
                                      have hnb131 := NB321_315.out
                                      have hnc131 := NB315_321.out
                                      have hcz132_0 : wr.cell? ⟨gb321, 0, none⟩ = some (.int .i64 t317) := (blk_cell BK321.out 0).trans rfl
                                      have hcz132_1 : wr.cell? ⟨gb321, 1, none⟩ = some (.int .i64 t318) := (blk_cell BK321.out 1).trans rfl
                                      have hcz132_2 : wr.cell? ⟨gb321, 2, none⟩ = some (.int .i64 t319) := (blk_cell BK321.out 2).trans rfl
                                      have hfz132_0 := blk_frozen BK321.out 0
                                      have hfz132_1 := blk_frozen BK321.out 1
                                      have hfz132_2 := blk_frozen BK321.out 2
                                      go_wp2_with (first | ((with_reducible refine gate_callee (f := 31) rfl ?_); refine goesL_ (some 118) rfl rfl Try.func31 (by kernel_rfl) rfl #[.agg #[.int .i64 a0_0, .int .i64 a0_1, .int .i64 a0_2], .agg #[.int .i64 t317, .int .i64 t318, .int .i64 t319]] rfl (by (try simp only [List.map_toArray, List.map_cons, List.map_nil]); first | done | rfl | (simp only [List.length_drop, List.length_take]; rfl)) ?_; (with_reducible refine (date_Workdays.calls k5 a0_0 a0_1 a0_2 t317 t318 t319 t322 t323 _ A116.out).mono ?_); rintro e w133 ⟨rfl, hb⟩; refine ⟨_, rfl, ?_⟩; have n0_ := Aside0.mk (blk_below (g := gb299) (o := .cells #[.int .i64 a0_0, .int .i64 a0_1, .int .i64 a0_2] 23 (0, 0)) (by (with_reducible repeat (first | refine blk_drewN ?_ _ | refine blk_drew ?_ | refine blk_alloc ?_ _)); exact BK299.out) hb); have n1_ := Aside0.mk (blk_below (g := gb306) (o := .cells #[.int .i64 t302, .int .i64 t303, .int .i64 t304] 23 (0, 0)) (by (with_reducible repeat (first | refine blk_drewN ?_ _ | refine blk_drew ?_ | refine blk_alloc ?_ _)); exact BK306.out) hb); have n2_ := Aside0.mk (blk_below (g := gb315) (o := .cells #[.int .i64 t311, .int .i64 t312, .int .i64 t313] 23 (0, 0)) (by (with_reducible repeat (first | refine blk_drewN ?_ _ | refine blk_drew ?_ | refine blk_alloc ?_ _)); exact BK315.out) hb); have n3_ := Aside0.mk (blk_below (g := gb321) (o := .cells #[.int .i64 t317, .int .i64 t318, .int .i64 t319] 23 (0, 0)) (by (with_reducible repeat (first | refine blk_drewN ?_ _ | refine blk_drew ?_ | refine blk_alloc ?_ _)); exact BK321.out) hb); have n4_ := Aside0.mk (below_step (by repeat (first | (with_reducible first | exact HB.out | apply below_alloc | apply pw_below_drewN | apply below_drew1 | refine below_set ?_ GE299.out | refine below_set ?_ GE306.out | refine below_set ?_ GE315.out | refine below_set ?_ GE321.out) | exact HB.out)) hb); clear BK299; clear BK306; clear BK315; clear BK321; clear HB; have BK299 := n0_; have BK306 := n1_; have BK315 := n2_; have BK321 := n3_; have HB := n4_; clear n0_ n1_ n2_ n3_ n4_; (try clear hb); (try clear hb2); (try clear hk); (try clear hi)))
                                      go_ret
                                      exact ⟨by first | rfl | (simp [errW_none, errW_some] <;> rfl) | (simp [*, errW_none, errW_some] <;> rfl), by repeat (first | (with_reducible first | exact HB.out | apply below_alloc | apply pw_below_drewN | apply below_drew1 | refine below_set ?_ GE299.out | refine below_set ?_ GE306.out | refine below_set ?_ GE315.out | refine below_set ?_ GE321.out) | exact HB.out)⟩
                            · replace c107 := Bool.eq_false_iff.mpr c107
                              subst c107
                              have H1 : (some true) = some r := by rw [if_neg (show ¬ (false = true) by decide)] at H; exact H
                              clear H
                              have H := H1
                              clear H1
                              obtain rfl := Option.some.inj H
                              go_wp2_with (first | ((with_reducible refine gate_callee (f := 19) rfl ?_); refine goesL_ (some 97) rfl rfl Try.func19 (by kernel_rfl) rfl #[.int .i64 (wrap64 (t307 + a1))] rfl (by (try simp only [List.map_toArray, List.map_cons, List.map_nil]); first | done | rfl | (simp only [List.length_drop, List.length_take]; rfl)) ?_; (with_reducible refine (stipendref03_Of.calls kj102 (wrap64 (t307 + a1)) t317 t318 t319 false _ A106.out).mono ?_); rintro e w134 ⟨rfl, hb⟩; refine ⟨_, rfl, ?_⟩; have n0_ := Aside0.mk (blk_below (g := gb299) (o := .cells #[.int .i64 a0_0, .int .i64 a0_1, .int .i64 a0_2] 23 (0, 0)) (by (with_reducible repeat (first | refine blk_drewN ?_ _ | refine blk_drew ?_ | refine blk_alloc ?_ _)); exact BK299.out) hb); have n1_ := Aside0.mk (blk_below (g := gb306) (o := .cells #[.int .i64 t302, .int .i64 t303, .int .i64 t304] 23 (0, 0)) (by (with_reducible repeat (first | refine blk_drewN ?_ _ | refine blk_drew ?_ | refine blk_alloc ?_ _)); exact BK306.out) hb); have n2_ := Aside0.mk (blk_below (g := gb315) (o := .cells #[.int .i64 t311, .int .i64 t312, .int .i64 t313] 23 (0, 0)) (by (with_reducible repeat (first | refine blk_drewN ?_ _ | refine blk_drew ?_ | refine blk_alloc ?_ _)); exact BK315.out) hb); have n3_ := Aside0.mk (below_step (by repeat (first | (with_reducible first | exact HB.out | apply below_alloc | apply pw_below_drewN | apply below_drew1 | refine below_set ?_ GE299.out | refine below_set ?_ GE306.out | refine below_set ?_ GE315.out) | exact HB.out)) hb); clear BK299; clear BK306; clear BK315; clear HB; have BK299 := n0_; have BK306 := n1_; have BK315 := n2_; have HB := n3_; clear n0_ n1_ n2_ n3_; (try clear hb); (try clear hb2); (try clear hk); (try clear hi)) | ((with_reducible refine gate_dst (N := 13) rfl ?_); refine box_event ?hg (N := 13) ?hd (cs := #[.int .i64 0, .int .i64 0, .int .i64 0]) (t := 23) ?hr ?_; (case hd => rfl); (case hg => rfl); (case hr => first | (go_simp; done) | (go_simp; rfl)); intro gb321 hg w135 hbox hb; have n0_ := Aside0.mk (blk_below (g := gb299) (o := .cells #[.int .i64 a0_0, .int .i64 a0_1, .int .i64 a0_2] 23 (0, 0)) (by (with_reducible repeat (first | refine blk_drewN ?_ _ | refine blk_drew ?_ | refine blk_alloc ?_ _)); exact BK299.out) hb); have n1_ := Aside0.mk (blk_below (g := gb306) (o := .cells #[.int .i64 t302, .int .i64 t303, .int .i64 t304] 23 (0, 0)) (by (with_reducible repeat (first | refine blk_drewN ?_ _ | refine blk_drew ?_ | refine blk_alloc ?_ _)); exact BK306.out) hb); have n2_ := Aside0.mk (blk_below (g := gb315) (o := .cells #[.int .i64 t311, .int .i64 t312, .int .i64 t313] 23 (0, 0)) (by (with_reducible repeat (first | refine blk_drewN ?_ _ | refine blk_drew ?_ | refine blk_alloc ?_ _)); exact BK315.out) hb); have n3_ := Aside0.mk (below_step (by repeat (first | (with_reducible first | exact HB.out | apply below_alloc | apply pw_below_drewN | apply below_drew1 | refine below_set ?_ GE299.out | refine below_set ?_ GE306.out | refine below_set ?_ GE315.out) | exact HB.out)) hb); have n4_ := Aside0.mk (hbox); have n5_ := Aside0.mk ((by rw [hg]; exact (below_size (by repeat (first | (with_reducible first | exact HB.out | apply below_alloc | apply pw_below_drewN | apply below_drew1 | refine below_set ?_ GE299.out | refine below_set ?_ GE306.out | refine below_set ?_ GE315.out) | exact HB.out))) : w.heap.size ≤ gb321)); have n6_ := Aside0.mk ((by rw [hg]; exact (below_size (by repeat (first | (with_reducible first | exact HB.out | apply below_alloc | apply pw_below_drewN | apply below_drew1 | refine below_set ?_ GE299.out | refine below_set ?_ GE306.out | refine below_set ?_ GE315.out) | exact HB.out))) : w.heap.size ≤ gb321)); have n7_ := Aside0.mk ((by rw [hg]; exact Nat.ne_of_lt (blk_lt (g := gb299) (o := .cells #[.int .i64 a0_0, .int .i64 a0_1, .int .i64 a0_2] 23 (0, 0)) (by (with_reducible repeat (first | refine blk_drewN ?_ _ | refine blk_drew ?_ | refine blk_alloc ?_ _)); exact BK299.out)) : gb299 ≠ gb321)); have n8_ := Aside0.mk ((by rw [hg]; exact Nat.ne_of_gt (blk_lt (g := gb299) (o := .cells #[.int .i64 a0_0, .int .i64 a0_1, .int .i64 a0_2] 23 (0, 0)) (by (with_reducible repeat (first | refine blk_drewN ?_ _ | refine blk_drew ?_ | refine blk_alloc ?_ _)); exact BK299.out)) : gb321 ≠ gb299)); have n9_ := Aside0.mk ((by rw [hg]; exact Nat.ne_of_lt (blk_lt (g := gb306) (o := .cells #[.int .i64 t302, .int .i64 t303, .int .i64 t304] 23 (0, 0)) (by (with_reducible repeat (first | refine blk_drewN ?_ _ | refine blk_drew ?_ | refine blk_alloc ?_ _)); exact BK306.out)) : gb306 ≠ gb321)); have n10_ := Aside0.mk ((by rw [hg]; exact Nat.ne_of_gt (blk_lt (g := gb306) (o := .cells #[.int .i64 t302, .int .i64 t303, .int .i64 t304] 23 (0, 0)) (by (with_reducible repeat (first | refine blk_drewN ?_ _ | refine blk_drew ?_ | refine blk_alloc ?_ _)); exact BK306.out)) : gb321 ≠ gb306)); have n11_ := Aside0.mk ((by rw [hg]; exact Nat.ne_of_lt (blk_lt (g := gb315) (o := .cells #[.int .i64 t311, .int .i64 t312, .int .i64 t313] 23 (0, 0)) (by (with_reducible repeat (first | refine blk_drewN ?_ _ | refine blk_drew ?_ | refine blk_alloc ?_ _)); exact BK315.out)) : gb315 ≠ gb321)); have n12_ := Aside0.mk ((by rw [hg]; exact Nat.ne_of_gt (blk_lt (g := gb315) (o := .cells #[.int .i64 t311, .int .i64 t312, .int .i64 t313] 23 (0, 0)) (by (with_reducible repeat (first | refine blk_drewN ?_ _ | refine blk_drew ?_ | refine blk_alloc ?_ _)); exact BK315.out)) : gb321 ≠ gb315)); clear BK299; clear BK306; clear BK315; clear HB; have BK299 := n0_; have BK306 := n1_; have BK315 := n2_; have HB := n3_; have BK321 := n4_; have GW321 := n5_; have GE321 := n6_; have NB299_321 := n7_; have NB321_299 := n8_; have NB306_321 := n9_; have NB321_306 := n10_; have NB315_321 := n11_; have NB321_315 := n12_; clear n0_ n1_ n2_ n3_ n4_ n5_ n6_ n7_ n8_ n9_ n10_ n11_ n12_; clear hb hbox hg; have hnb136 := NB321_299.out; have hnc136 := NB299_321.out; have hnb137 := NB321_306.out; have hnc137 := NB306_321.out; have hnb138 := NB321_315.out; have hnc138 := NB315_321.out; have hcz139_0 : w135.cell? ⟨gb321, 0, none⟩ = some (.int .i64 0) := (blk_cell BK321.out 0).trans rfl; have hcz139_1 : w135.cell? ⟨gb321, 1, none⟩ = some (.int .i64 0) := (blk_cell BK321.out 1).trans rfl; have hcz139_2 : w135.cell? ⟨gb321, 2, none⟩ = some (.int .i64 0) := (blk_cell BK321.out 2).trans rfl; have hfz139_0 := blk_frozen BK321.out 0; have hfz139_1 := blk_frozen BK321.out 1; have hfz139_2 := blk_frozen BK321.out 2))
                              go_ret
                              exact ⟨by first | rfl | (simp [errW_none, errW_some] <;> rfl) | (simp [*, errW_none, errW_some] <;> rfl), by repeat (first | (with_reducible first | exact HB.out | apply below_alloc | apply pw_below_drewN | apply below_drew1 | refine below_set ?_ GE299.out | refine below_set ?_ GE306.out | refine below_set ?_ GE315.out | refine below_set ?_ GE321.out) | exact HB.out)⟩

/-- THE ONE PURE STATEMENT of stipendlaw03_DateWorks: yours. -/
def stipendlaw03_DateWorks.Pure : Prop := ∀ (a0_0 : Int) (a0_1 : Int) (a0_2 : Int) (a1 : Int), (Lit.int .i64 a0_0).wf = true → (Lit.int .i64 a0_1).wf = true → (Lit.int .i64 a0_2).wf = true → (Lit.int .i64 a1).wf = true → ∃ k, stipendlaw03_DateWorks.f k a0_0 a0_1 a0_2 a1 = some true
theorem stipendlaw03_DateWorks.walk (P : stipendlaw03_DateWorks.Pure) (a0_0 : Int) (a0_1 : Int) (a0_2 : Int) (a1 : Int) (w : World) (w0_0 : (Lit.int .i64 a0_0).wf = true) (w0_1 : (Lit.int .i64 a0_1).wf = true) (w0_2 : (Lit.int .i64 a0_2).wf = true) (w1 : (Lit.int .i64 a1).wf = true) :
    Calls Try.prog 9 #[.agg #[.int .i64 a0_0, .int .i64 a0_1, .int .i64 a0_2], .int .i64 a1] w fun e w' => e = .returned (.bool true) ∧ Below w.heap.size w w' := by
  obtain ⟨k, h⟩ := P a0_0 a0_1 a0_2 a1 w0_0 w0_1 w0_2 w1
  refine (stipendlaw03_DateWorks.calls k a0_0 a0_1 a0_2 a1 true w h).mono ?_
  rintro e w' ⟨rfl, hd⟩
  exact ⟨rfl, hd⟩

end Go.Proofs.Ythfkfageehkhcaa.X
